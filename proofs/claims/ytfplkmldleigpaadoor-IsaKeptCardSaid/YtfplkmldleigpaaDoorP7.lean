/- Plain words: an operation by its name. No program in sight. No condition. -/
import Derived.Test.YtfplkmldleigpaaDoorP6
namespace Go.Proofs.YtfplkmldleigpaaDoor
open Go.RowKit

def findAt (name : List UInt8) : Nat → Nat → Int
  | 0, _ => 0
  | n + 1, k => if opName ((k : Int) + 1) = name then (k : Int) + 1 else findAt name n (k + 1)
/-- the number of a name's operation; 0: there is none -/
def findR (name : List UInt8) : Int := findAt name 43 0
theorem findAt_hit {name : List UInt8} {k : Nat} (hk : k < 43) (h : opName ((k : Int) + 1) = name) : findAt name (43 - k) k = (k : Int) + 1 := by
  rw [show 43 - k = (42 - k) + 1 by omega, findAt, if_pos h]
theorem findAt_miss {name : List UInt8} {k : Nat} (hk : k < 43) (h : opName ((k : Int) + 1) ≠ name) : findAt name (43 - k) k = findAt name (43 - (k + 1)) (k + 1) := by
  rw [show 43 - k = (42 - k) + 1 by omega, findAt, if_neg h, show 42 - k = 43 - (k + 1) by omega]
theorem findAt_bounds (name : List UInt8) : ∀ n k, 0 ≤ findAt name n k ∧ (findAt name n k ≤ (n : Int) + k) := by
  intro n
  induction n with
  | zero => intro k; simp [findAt]
  | succ n ih =>
    intro k
    unfold findAt
    split
    · omega
    · have := ih (k + 1); omega
theorem findR_bounds (name : List UInt8) : 0 ≤ findR name ∧ findR name ≤ 43 := by
  have := findAt_bounds name 43 0
  unfold findR
  omega
end Go.Proofs.YtfplkmldleigpaaDoor
