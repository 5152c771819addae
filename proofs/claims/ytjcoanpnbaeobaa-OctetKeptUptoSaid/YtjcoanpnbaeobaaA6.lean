/- The walk of law 1's known. -/
import Derived.Test.YtjcoanpnbaeobaaA5
import Derived.Test.YtjcoanpnbaeobaaA2
namespace Go.Proofs.Ytjcoanpnbaeobaa
open Go.RowKit
set_option linter.unusedVariables false

theorem sl_bytes (w : World) (l : List UInt8) (t : TypeId) : Sl (w.alloc (.cells (bs l).toArray t)) (w.heap.size + 1) 1 (some ⟨w.heap.size, 0, none⟩) l.length (bs l) :=
  sl_new w (bs l) 1 l.length (by simp [bs]) t

theorem known1_get (w : World) : Calls Try.prog 24 #[.slice (some ⟨w.heap.size, 0, none⟩) 2 2, .int .i64 0, .int .i64 2] (w.alloc (.cells #[.int .u8 2, .int .u8 1] 5))
    fun e w' => e = .returned (.tuple #[.int .u32 258, .int .i64 0]) ∧ w.alloc (.cells #[.int .u8 2, .int .u8 1] 5) = w' :=
  get_any (some ⟨w.heap.size, 0, none⟩) 2 2 [2, 1] 0 2 _ ((sl_bytes w [2, 1] 5).more (by simp)) (by decide)
theorem known1_signed (w : World) : Calls Try.prog 9 #[.int .u32 255, .int .i64 1] w fun e w' => e = .returned (.int .i32 (-1)) ∧ w = w' := signed_any 255 1 w (by omega) (by omega)
theorem known1_fits (w : World) : Calls Try.prog 11 #[.int .i32 (-128), .int .i64 1] w fun e w' => e = .returned (.bool true) ∧ w = w' := fits_any (-128) 1 w (by omega) (by omega)
theorem known1_not (w : World) : Calls Try.prog 11 #[.int .i32 128, .int .i64 1] w fun e w' => e = .returned (.bool false) ∧ w = w' := fits_any 128 1 w (by omega) (by omega)

theorem known1_any (w : World) : Calls Try.prog 13 #[] w fun e w' => e = .returned (.bool true) ∧ Below w.heap.size w w' := by
  go_enter Try.func13, Try.ntmps13
  go_wp2_with (first
    | (go_at_call 24; refine (known1_get _).mono ?_; rintro e w' ⟨rfl, rfl⟩)
    | (go_at_call 9; refine (known1_signed _).mono ?_; rintro e w' ⟨rfl, rfl⟩)
    | (go_at_call 11; with_reducible refine (known1_fits _).mono ?_; rintro e w' ⟨rfl, rfl⟩)
    | (go_at_call 11; with_reducible refine (known1_not _).mono ?_; rintro e w' ⟨rfl, rfl⟩))
  go_ret
  exact ⟨rfl, (Below.refl _ _).alloc (Nat.le_refl _) _⟩
end Go.Proofs.Ytjcoanpnbaeobaa
