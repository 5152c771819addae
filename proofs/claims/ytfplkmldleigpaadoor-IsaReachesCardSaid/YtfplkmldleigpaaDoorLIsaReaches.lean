/- Law IsaReaches: what reaches by a form reaches by a longer one; all reaches by four bytes. Conditions: none. -/
import Derived.Test.YtfplkmldleigpaaDoorB10
namespace Go.Proofs.YtfplkmldleigpaaDoor.isaReaches
open Go.RowKit
set_option linter.unusedVariables false

theorem walk (w : World) (n : Int) (b0 : -2147483648 ≤ n ∧ n ≤ 2147483647) (hT : TabIs 0 w) :
    Calls Tryd.prog 5 #[.int .i32 n] w fun e w' => e = .returned (.bool true) ∧ Below w.heap.size w w' := by
  have hr : ∀ f R w, fitsB n f = R → Calls Tryd.prog 21 #[.int .i32 n, .int .i64 f] w fun e w' => e = .returned (.bool R) ∧ w = w' := by
    rintro f R w rfl
    exact reaches_any n f w b0.1 b0.2
  have h4 := fun w => hr 4 true w rfl
  have h0 := fun w => hr 0 false w rfl
  have h3 := fun w => hr 3 false w rfl
  by_cases h : -128 ≤ n ∧ n < 128
  · have h1 := fun w => hr 1 true w (by simp [fitsB]; omega)
    have h2 := fun w => hr 2 true w (by simp [fitsB]; omega)
    have H0 := Lib.hid h0
    have H1 := Lib.hid h1
    have H2 := Lib.hid h2
    have H3 := Lib.hid h3
    have H4 := Lib.hid h4
    have c0 := h.1
    have c1 := h.2
    clear h0 h1 h2 h3 h4 hr b0 h
    go_enter Tryd.func5, Tryd.ntmps5
    go_wp2_with (first
      | (go_at_call 21; (with_reducible refine (H1.out _).mono ?_); rintro e w' ⟨rfl, rfl⟩)
      | (go_at_call 21; (with_reducible refine (H2.out _).mono ?_); rintro e w' ⟨rfl, rfl⟩)
      | (go_at_call 21; (with_reducible refine (H4.out _).mono ?_); rintro e w' ⟨rfl, rfl⟩)
      | (go_at_call 21; (with_reducible refine (H0.out _).mono ?_); rintro e w' ⟨rfl, rfl⟩)
      | (go_at_call 21; (with_reducible refine (H3.out _).mono ?_); rintro e w' ⟨rfl, rfl⟩)
      | (go_at_call 23; refine (known5_any _ hT).mono ?_; rintro e w9 ⟨rfl, hb9⟩))
    go_ret
    exact ⟨rfl, hb9⟩
  · have h1 := fun w => hr 1 false w (by simp [fitsB]; omega)
    have H0 := Lib.hid h0
    have H1 := Lib.hid h1
    have H3 := Lib.hid h3
    have H4 := Lib.hid h4
    by_cases c0 : -128 ≤ n
    · have c1 : decide (n < 128) = false := by simp; omega
      clear h0 h1 h3 h4 hr b0 h
      go_enter Tryd.func5, Tryd.ntmps5
      go_wp2_with (first
        | (go_at_call 21; (with_reducible refine (H1.out _).mono ?_); rintro e w' ⟨rfl, rfl⟩)
        | (go_at_call 21; (with_reducible refine (H4.out _).mono ?_); rintro e w' ⟨rfl, rfl⟩)
        | (go_at_call 21; (with_reducible refine (H0.out _).mono ?_); rintro e w' ⟨rfl, rfl⟩)
        | (go_at_call 21; (with_reducible refine (H3.out _).mono ?_); rintro e w' ⟨rfl, rfl⟩)
        | (go_at_call 23; refine (known5_any _ hT).mono ?_; rintro e w9 ⟨rfl, hb9⟩))
      go_ret
      exact ⟨rfl, hb9⟩
    · clear h0 h1 h3 h4 hr b0 h
      go_enter Tryd.func5, Tryd.ntmps5
      go_wp2_with (first
        | (go_at_call 21; (with_reducible refine (H1.out _).mono ?_); rintro e w' ⟨rfl, rfl⟩)
        | (go_at_call 21; (with_reducible refine (H4.out _).mono ?_); rintro e w' ⟨rfl, rfl⟩)
        | (go_at_call 21; (with_reducible refine (H0.out _).mono ?_); rintro e w' ⟨rfl, rfl⟩)
        | (go_at_call 21; (with_reducible refine (H3.out _).mono ?_); rintro e w' ⟨rfl, rfl⟩)
        | (go_at_call 23; refine (known5_any _ hT).mono ?_; rintro e w9 ⟨rfl, hb9⟩))
      go_ret
      exact ⟨rfl, hb9⟩
end Go.Proofs.YtfplkmldleigpaaDoor.isaReaches
