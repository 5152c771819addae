/- Plain words on lists of bytes: what Put and Get come to. No program in sight. No condition. -/
import Derived.Test.YthcjnkakfpmpbaaDoorM1
import Derived.Test.YthcjnkakfpmpbaaDoorP1
namespace Go.Proofs.YthcjnkakfpmpbaaDoor
open Go.RowKit

/-- the lowest byte of a number -/
def lowB (y : Int) : UInt8 := UInt8.ofNat (y % 256).toNat
theorem lowB_toNat (y : Int) : ((lowB y).toNat : Int) = y % 256 := by
  have h0 := Int.emod_nonneg y (show (256 : Int) ≠ 0 by decide)
  have h1 := Int.emod_lt_of_pos y (show (0 : Int) < 256 by decide)
  unfold lowB
  rw [UInt8.toNat_ofNat']
  omega
/-- so many bytes of a number, the lowest first -/
def le (x : Int) : Nat → List UInt8
  | 0 => []
  | k + 1 => le x k ++ [lowB (x / 256 ^ k)]
theorem le_length (x : Int) (k : Nat) : (le x k).length = k := by
  induction k with
  | zero => rfl
  | succ k ih => simp [le, ih]
theorem le_succ (x : Int) (k : Nat) : le x (k + 1) = le x k ++ [lowB (x / 256 ^ k)] := rfl
/-- what Put comes to -/
def putL (l : List UInt8) (x width : Int) : List UInt8 := if legalB width then l ++ le x width.toNat else l
theorem putL_no {l : List UInt8} {x width : Int} (h : legalB width = false) : putL l x width = l := by simp [putL, h]
theorem putL_yes {l : List UInt8} {x width : Int} (h : legalB width = true) : putL l x width = l ++ le x width.toNat := by simp [putL, h]
theorem bs_lowB (y : Int) : bs [lowB y] = [.int .u8 (y % 256)] := by simp only [bs, List.map_cons, List.map_nil, lowB_toNat]
theorem pow_step (x : Int) (k : Nat) : x / 256 ^ k / 256 = x / 256 ^ (k + 1) := by
  rw [Int.pow_succ, Int.ediv_ediv_of_nonneg]
  exact Int.le_of_lt (Int.pow_pos (by decide))
theorem pow_bounds {x : Int} (k : Nat) (h0 : 0 ≤ x) (h1 : x < 4294967296) : 0 ≤ x / 256 ^ k ∧ x / 256 ^ k < 4294967296 := by
  have hp : (0 : Int) < 256 ^ k := Int.pow_pos (by decide)
  refine ⟨Int.ediv_nonneg h0 (Int.le_of_lt hp), ?_⟩
  have := Int.ediv_le_self (a := x) (256 ^ k) h0
  omega

/-- are two lists the same? -/
def sameB {α : Type} [DecidableEq α] (xs ys : List α) : Bool := decide (xs = ys)
theorem sameB_yes {α : Type} [DecidableEq α] {xs ys : List α} (h : xs = ys) : sameB xs ys = true := by simp [sameB, h]
theorem sameB_no {α : Type} [DecidableEq α] {xs ys : List α} (h : xs ≠ ys) : sameB xs ys = false := by simp [sameB, h]
theorem same_step {α : Type} {xs ys : List α} {k : Nat} {x : α} (h : xs.take k = ys.take k) (hx : xs[k]? = some x) (hy : ys[k]? = some x) : xs.take (k + 1) = ys.take (k + 1) := by
  rw [List.take_add_one, List.take_add_one, h, hx, hy]
theorem same_end {α : Type} {xs ys : List α} {n : Nat} (h : xs.take n = ys.take n) (hx : xs.length = n) (hy : ys.length = n) : xs = ys := by
  rw [List.take_of_length_le (by omega), List.take_of_length_le (by omega)] at h
  exact h
theorem same_not {α : Type} {xs ys : List α} {k : Nat} {x y : α} (hx : xs[k]? = some x) (hy : ys[k]? = some y) (h : x ≠ y) : xs ≠ ys := by
  rintro rfl
  rw [hx] at hy
  exact h (Option.some.inj hy)
end Go.Proofs.YthcjnkakfpmpbaaDoor
