/- Plain words: what was laid is read. No program in sight. No condition. -/
import Derived.Test.YthcjnkakfpmpbaaDoorP3
namespace Go.Proofs.YthcjnkakfpmpbaaDoor
open Go.RowKit

theorem leVal_append (a b : List UInt8) : leVal (a ++ b) = leVal a + 256 ^ a.length * leVal b := by
  induction a with
  | nil => simp [leVal]
  | cons x r ih =>
    simp only [List.cons_append, leVal, ih, List.length_cons, Int.pow_succ, Int.mul_add, ← Int.add_assoc]
    congr 1
    rw [← Int.mul_assoc, Int.mul_comm 256]
theorem leVal_one (y : Int) : leVal [lowB y] = y % 256 := by simp [leVal, lowB_toNat]
theorem leVal_le (x : Int) (k : Nat) : leVal (le x k) = x % 256 ^ k := by
  induction k with
  | zero => simp [le, leVal, Int.emod_one]
  | succ k ih =>
    rw [le_succ, leVal_append, ih, le_length, leVal_one, Int.pow_succ]
    have hd : x / (256 ^ k * 256) = x / 256 ^ k / 256 := by rw [Int.ediv_ediv_of_nonneg]; exact Int.le_of_lt (Int.pow_pos (by decide))
    rw [Int.emod_def, Int.emod_def, Int.emod_def, hd, Int.mul_sub, ← Int.mul_assoc]
    omega
theorem getR_back (l t : List UInt8) (x : Int) (W : Nat) (h : legalB (W : Int) = true) : getR (l ++ (le x W ++ t)) l.length W = (x % 256 ^ W, 0) := by
  rw [getR_ok h (by omega) (by simp [le_length]; omega) (by simp [le_length]; omega), Int.toNat_natCast, Int.toNat_natCast, List.drop_left, List.take_left' (le_length x W), leVal_le]
theorem getTextR_back (l S t : List UInt8) (hS : S.length ≤ 60000) : getTextR (l ++ (le S.length 2 ++ (S ++ t))) l.length S.length = (S, (l.length : Int) + 2 + S.length, 0) := by
  have hg : getR (l ++ (le (S.length : Int) 2 ++ (S ++ t))) l.length 2 = ((S.length : Int), 0) := by
    have := getR_back l (S ++ t) S.length 2 rfl
    rw [show ((2 : Nat) : Int) = 2 from rfl] at this
    rw [this]
    congr 1
    exact Int.emod_eq_of_lt (by omega) (by omega)
  unfold getTextR
  rw [hg]
  simp only [ne_eq, not_true_eq_false, if_false]
  rw [if_neg (by omega), if_neg (by simp [le_length]; omega)]
  have e1 : ((l.length : Int) + 2).toNat = l.length + 2 := by omega
  rw [e1, Int.toNat_natCast, ← List.drop_drop, List.drop_left]
  rw [List.drop_left' (le_length _ _), List.take_left]

/-- with its sign it is the number, if it fits -/
theorem fits_back (x : Int) (W : Nat) (hW : W = 1 ∨ W = 2 ∨ W = 4) : (sgn (x % 256 ^ W) W == wrap32 x) = fitsB (wrap32 x) W := by
  have hw : -2147483648 ≤ wrap32 x ∧ wrap32 x ≤ 2147483647 := by unfold wrap32; omega
  have h := fits_sgn (n := wrap32 x) (w := (W : Int)) hw.1 hw.2 (by rcases hW with rfl | rfl | rfl <;> rfl)
  rw [← h]
  congr 1
  rcases hW with rfl | rfl | rfl
  · simp [sgn, wrap32]; omega
  · simp [sgn, wrap32]; omega
  · simp [sgn, wrap32]
end Go.Proofs.YthcjnkakfpmpbaaDoor
