/- Law OctetNumbers: chapter 1's runs. Conditions: none. -/
import Derived.Test.YtjcoanpnbaeobaaA9
namespace Go.Proofs.Ytjcoanpnbaeobaa.octetNumbers
open Go.RowKit
set_option linter.unusedVariables false

theorem k_get (at_ width v y : Int) (h : getR [2, 1] at_ width = (v, y)) (W : World) (g : Nat) (hg : g = W.heap.size) :
    Calls Try.prog 24 #[.slice (some ⟨g, 0, none⟩) 2 2, .int .i64 at_, .int .i64 width] (W.alloc (.cells #[.int .u8 2, .int .u8 1] 5)) fun e w' => e = .returned (.tuple #[.int .u32 v, .int .i64 y]) ∧ W.alloc (.cells #[.int .u8 2, .int .u8 1] 5) = w' := by
  subst hg
  have := get_any (some ⟨W.heap.size, 0, none⟩) 2 2 [2, 1] at_ width _ ((sl_bytes W [2, 1] 5).more (by simp)) (by decide)
  rwa [h] at this
theorem k_text (W : World) (g : Nat) (hg : g = W.heap.size) :
    Calls Try.prog 26 #[.slice (some ⟨g, 0, none⟩) 2 2, .int .i64 0, .int .i64 5] (W.alloc (.cells #[.int .u8 0, .int .u8 0] 5)) fun e w' => e = .returned (.tuple #[.string ⟨#[]⟩, .int .i64 2, .int .i64 0]) ∧ W.alloc (.cells #[.int .u8 0, .int .u8 0] 5) = w' := by
  subst hg
  exact getText_any (some ⟨W.heap.size, 0, none⟩) 2 2 [0, 0] 0 5 _ ((sl_bytes W [0, 0] 5).more (by simp)) (by omega) (by omega) (by omega)
theorem k_put (W : World) : Calls Try.prog 15 #[.slice none 0 0, .int .u32 258, .int .i64 2] W fun e w' => ∃ A c, e = .returned (.slice A 2 c) ∧ (∀ C (X : World), X = w' → (convert 27 9 (.slice A 2 C)).run Try.prog X = .ok (.string ⟨#[2, 1]⟩) X) ∧ Below W.heap.size W w' := by
  refine (put_any none 0 0 [] 258 2 W (Sl.nil_ _ _ _ _) (by omega) (by omega) (by omega)).mono ?_
  rintro e w' ⟨A, n, c, rfl, hc, hs, hb⟩
  have hn : n = 2 := hs.blen.symm
  subst hn
  refine ⟨A, c, rfl, ?_, hb⟩
  rintro C X rfl
  have := run_str (P := Try.prog) (c := C) 27 9 5 Try.underlying27 Try.underlying5 Try.underlying9 hs (fun h => by subst h; exact hs.none_len)
  rw [show putL [] 258 2 = [2, 1] from by decide] at this
  exact this
theorem k_put3 (W : World) : Calls Try.prog 15 #[.slice none 0 0, .int .u32 258, .int .i64 3] W fun e w' => ∃ A c, e = .returned (.slice A 0 c) ∧ Below W.heap.size W w' := by
  refine (put_any none 0 0 [] 258 3 W (Sl.nil_ _ _ _ _) (by omega) (by omega) (by omega)).mono ?_
  rintro e w' ⟨A, n, c, rfl, hc, hs, hb⟩
  have hn : n = 0 := hs.blen.symm
  subst hn
  exact ⟨A, c, rfl, hb⟩
theorem k_signed (w : World) : Calls Try.prog 9 #[.int .u32 128, .int .i64 2] w fun e w' => e = .returned (.int .i32 128) ∧ w = w' := signed_any 128 2 w (by omega) (by omega)
theorem k_fits (w : World) : Calls Try.prog 11 #[.int .i32 2147483647, .int .i64 4] w fun e w' => e = .returned (.bool true) ∧ w = w' := fits_any 2147483647 4 w (by omega) (by omega)
theorem k_fits3 (w : World) : Calls Try.prog 11 #[.int .i32 0, .int .i64 3] w fun e w' => e = .returned (.bool false) ∧ w = w' := fits_any 0 3 w (by omega) (by omega)

set_option maxHeartbeats 1000000 in
theorem walk (w : World) : Calls Try.prog 7 #[] w fun e w' => e = .returned (.bool true) ∧ Below w.heap.size w w' := by
  go_enter Try.func7, Try.ntmps7
  go_wp2_with fail
  refine (k_get 1 2 0 10 (by decide) _ _ (by simp)).mono ?_
  rintro e w' ⟨rfl, rfl⟩
  go_wp2_with fail
  refine (k_get 3 2 0 1 (by decide) _ _ (by simp)).mono ?_
  rintro e w' ⟨rfl, rfl⟩
  go_wp2_with fail
  refine (k_get 0 3 0 1 (by decide) _ _ (by simp)).mono ?_
  rintro e w' ⟨rfl, rfl⟩
  go_wp2_with fail
  refine (k_text _ _ (by simp)).mono ?_
  rintro e w' ⟨rfl, rfl⟩
  have hb0 : Below w.heap.size w ((((w.alloc (.cells #[.int .u8 2, .int .u8 1] 5)).alloc (.cells #[.int .u8 2, .int .u8 1] 5)).alloc (.cells #[.int .u8 2, .int .u8 1] 5)).alloc (.cells #[.int .u8 0, .int .u8 0] 5)) :=
    ((((Below.refl _ _).alloc (by simp) _).alloc (by simp) _).alloc (by simp <;> omega) _).alloc (by simp <;> omega) _
  generalize ((((w.alloc (.cells #[.int .u8 2, .int .u8 1] 5)).alloc (.cells #[.int .u8 2, .int .u8 1] 5)).alloc (.cells #[.int .u8 2, .int .u8 1] 5)).alloc (.cells #[.int .u8 0, .int .u8 0] 5)) = w0 at hb0 ⊢
  go_wp2_with fail
  refine (k_put _).mono ?_
  rintro e w1 ⟨A1, c1, rfl, hstr, hb1⟩
  have hs1 := fun C => hstr C w1 rfl
  clear hstr
  go_wp2_with fail
  refine (k_put3 _).mono ?_
  rintro e w2 ⟨A2, c2, rfl, hb2⟩
  go_wp2_with (first
    | (go_at_call 9; refine (k_signed _).mono ?_; rintro e w' ⟨rfl, rfl⟩)
    | (go_at_call 11; (with_reducible refine (k_fits _).mono ?_); rintro e w' ⟨rfl, rfl⟩)
    | (go_at_call 11; (with_reducible refine (k_fits3 _).mono ?_); rintro e w' ⟨rfl, rfl⟩)
    | (go_at_call 13; refine (known1_any _).mono ?_; rintro e w9 ⟨rfl, hb9⟩))
  go_ret
  have z0 := hb0.size
  have z1 := hb1.size
  have z2 := hb2.size
  exact ⟨rfl, ((hb0.trans (hb1.mono (by omega))).trans (hb2.mono (by omega))).trans (hb9.mono (by omega))⟩
end Go.Proofs.Ytjcoanpnbaeobaa.octetNumbers
