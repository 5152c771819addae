/- Plain words on numbers in bytes: no program in sight. No condition. -/
import Derived.RowKit
import Derived.WalkKit
namespace Go.Proofs.YtfplkmldleigpaaDoor
open Go.RowKit

/-- the widths that may be -/
def legalB (width : Int) : Bool := width == 1 || width == 2 || width == 4

/-- the number that the lowest bytes say, with its sign -/
def sgn (n width : Int) : Int :=
  if width = 1 then (n + 128) % 256 - 128 else if width = 2 then (n + 32768) % 65536 - 32768 else if width = 4 then (n + 2147483648) % 4294967296 - 2147483648 else 0

/-- can some bytes hold a number? -/
def fitsB (n width : Int) : Bool :=
  if width = 1 then decide (-128 ≤ n ∧ n ≤ 127) else if width = 2 then decide (-32768 ≤ n ∧ n ≤ 32767) else decide (width = 4)

theorem ret_int {k : IntKind} {a b : Int} (h : a = b) : Ending.returned (.int k a) = .returned (.int k b) := by rw [h]
theorem ret_bool {a b : Bool} (h : a = b) : Ending.returned (.bool a) = .returned (.bool b) := by rw [h]

theorem wrap_i8 (n : Int) : IntKind.i8.wrap n = (n + 128) % 256 - 128 := by simp [IntKind.wrap, IntKind.bits, IntKind.signed]; split <;> omega
theorem wrap_i16 (n : Int) : IntKind.i16.wrap n = (n + 32768) % 65536 - 32768 := by simp [IntKind.wrap, IntKind.bits, IntKind.signed]; split <;> omega

theorem width_cases (w : Int) : w = 1 ∨ w = 2 ∨ w = 4 ∨ (w ≠ 1 ∧ w ≠ 2 ∧ w ≠ 4) := by omega
theorem legalB_not {w : Int} (h : w ≠ 1 ∧ w ≠ 2 ∧ w ≠ 4) : legalB w = false := by simp [legalB, h]
theorem sgn_not {n w : Int} (h : w ≠ 1 ∧ w ≠ 2 ∧ w ≠ 4) : sgn n w = 0 := by simp [sgn, h]
theorem fitsB_not {n w : Int} (h : w ≠ 1 ∧ w ≠ 2 ∧ w ≠ 4) : fitsB n w = false := by simp [fitsB, h]
theorem sgn_bounds (n w : Int) : -2147483648 ≤ sgn n w ∧ sgn n w ≤ 2147483647 := by
  unfold sgn; split
  · omega
  split
  · omega
  split <;> omega
theorem fits_sgn {n w : Int} (h0 : -2147483648 ≤ n) (h1 : n ≤ 2147483647) (hl : legalB w = true) : (sgn (n % 4294967296) w == n) = fitsB n w := by
  rw [Bool.eq_iff_iff]
  simp only [beq_iff_eq, sgn, fitsB]
  rcases width_cases w with rfl | rfl | rfl | h
  · simp; omega
  · simp; omega
  · simp; omega
  · simp [legalB_not h] at hl
end Go.Proofs.YtfplkmldleigpaaDoor
