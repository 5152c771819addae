/- Plain words on the decoding of a first byte. No program in sight. No condition. -/
import Derived.Test.YthcjnkakfpmpbaaDoorP8
namespace Go.Proofs.YthcjnkakfpmpbaaDoor
open Go.RowKit

/-- does operation number k + 1 begin with byte c? -/
def hitB (k : Nat) (c : Int) : Bool := if spansB ((k : Int) + 1) then decide (opByte ((k : Int) + 1) ≤ c ∧ c - opByte ((k : Int) + 1) < 3) else c == opByte ((k : Int) + 1)
def formD (k : Nat) (c : Int) : Int := if spansB ((k : Int) + 1) then 2 ^ (c - opByte ((k : Int) + 1)).toNat else 0
/-- from operation k + 1 on, n of them: the operation and form of a first byte -/
def findD : Nat → Nat → Int → Int × Int
  | 0, _, _ => (0, 0)
  | n + 1, k, c => if hitB k c then ((k : Int) + 1, formD k c) else findD n (k + 1) c
def byteD (c : Int) : Int × Int := findD 43 0 c
theorem findD_hit {c : Int} {k : Nat} (hk : k < 43) (h : hitB k c = true) : findD (43 - k) k c = ((k : Int) + 1, formD k c) := by
  rw [show 43 - k = (43 - (k + 1)) + 1 by omega]
  simp [findD, h]
theorem findD_miss {c : Int} {k : Nat} (hk : k < 43) (h : hitB k c = false) : findD (43 - k) k c = findD (43 - (k + 1)) (k + 1) c := by
  rw [show 43 - k = (43 - (k + 1)) + 1 by omega]
  simp [findD, h]
theorem byteD_bounds : ∀ c : Nat, c < 256 → 0 ≤ (byteD c).1 ∧ (byteD c).1 ≤ 43 ∧ ((byteD c).2 = 0 ∨ (byteD c).2 = 1 ∨ (byteD c).2 = 2 ∨ (byteD c).2 = 4) := by decide +kernel
end Go.Proofs.YthcjnkakfpmpbaaDoor
