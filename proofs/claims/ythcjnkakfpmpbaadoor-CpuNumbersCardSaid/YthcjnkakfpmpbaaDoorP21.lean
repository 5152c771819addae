/- Plain laws for the machine: and, or, xor of 32 bits add up; a division's rest. No program in sight. Condition: none. -/
import Derived.WalkKit
import Derived.Laws.Entries
namespace Go.Proofs.YthcjnkakfpmpbaaDoor
open Go.RowKit

theorem and_or_xor : ∀ (n a b : Nat), a < 2 ^ n → b < 2 ^ n → (a &&& b) + (a ||| b) = a + b ∧ (a ^^^ b) + (a &&& b) = (a ||| b)
  | 0, a, b, ha, hb => by
    obtain rfl : a = 0 := by simpa using ha
    obtain rfl : b = 0 := by simpa using hb
    decide
  | n + 1, a, b, ha, hb => by
    obtain ⟨h1, h2⟩ := and_or_xor n (a / 2) (b / 2) (by rw [Nat.pow_succ] at ha; omega) (by rw [Nat.pow_succ] at hb; omega)
    have d1 : (a &&& b) / 2 = a / 2 &&& b / 2 := Nat.and_div_two
    have d2 : (a ||| b) / 2 = a / 2 ||| b / 2 := Nat.or_div_two
    have d3 : (a ^^^ b) / 2 = a / 2 ^^^ b / 2 := Nat.xor_div_two
    have m1 := Nat.and_mod_two_eq_one (a := a) (b := b)
    have m2 := Nat.or_mod_two_eq_one (a := a) (b := b)
    have m3 := Nat.xor_mod_two_eq_one (a := a) (b := b)
    rw [← d1, ← d2] at h1
    rw [← d1, ← d2, ← d3] at h2
    generalize a &&& b = u at *
    generalize a ||| b = v at *
    generalize a ^^^ b = t at *
    omega
theorem wrap_i32 (n : Int) : IntKind.i32.wrap n = wrap32 n := by
  simp [IntKind.wrap, IntKind.bits, IntKind.signed, wrap32]
  omega
theorem wrap32_in (n : Int) : -2147483648 ≤ wrap32 n ∧ wrap32 n ≤ 2147483647 := by unfold wrap32; omega
theorem bits32 (x y : Int) : ∃ u v t A B : Nat, bits .and .i32 x y = wrap32 u ∧ bits .or .i32 x y = wrap32 v ∧ bits .xor .i32 x y = wrap32 t ∧ u + v = A + B ∧ t + u = v ∧ (A : Int) = x % 4294967296 ∧ (B : Int) = y % 4294967296 ∧ u = (A &&& B) := by
  have hA : ((BitVec.ofInt 32 x).toNat : Int) = x % 4294967296 := by rw [BitVec.toNat_ofInt]; omega
  have hB : ((BitVec.ofInt 32 y).toNat : Int) = y % 4294967296 := by rw [BitVec.toNat_ofInt]; omega
  obtain ⟨h1, h2⟩ := and_or_xor 32 (BitVec.ofInt 32 x).toNat (BitVec.ofInt 32 y).toNat (BitVec.isLt _) (BitVec.isLt _)
  have e1 : bits .and .i32 x y = IntKind.i32.wrap ((BitVec.ofInt 32 x &&& BitVec.ofInt 32 y).toNat : Int) := rfl
  have e2 : bits .or .i32 x y = IntKind.i32.wrap ((BitVec.ofInt 32 x ||| BitVec.ofInt 32 y).toNat : Int) := rfl
  have e3 : bits .xor .i32 x y = IntKind.i32.wrap ((BitVec.ofInt 32 x ^^^ BitVec.ofInt 32 y).toNat : Int) := rfl
  rw [wrap_i32, BitVec.toNat_and] at e1
  rw [wrap_i32, BitVec.toNat_or] at e2
  rw [wrap_i32, BitVec.toNat_xor] at e3
  exact ⟨_, _, _, _, _, e1, e2, e3, h1, h2, hA, hB, rfl⟩
theorem wrap32_k (n : Int) : ∃ k, wrap32 n = n + 4294967296 * k := ⟨-((n + 2147483648) / 4294967296), by unfold wrap32; rw [Int.emod_def]; omega⟩
theorem wrap32_shift (n k : Int) : wrap32 (n + 4294967296 * k) = wrap32 n := by
  unfold wrap32
  rw [show n + 4294967296 * k + 2147483648 = n + 2147483648 + 4294967296 * k by omega, Int.add_mul_emod_self_left]
theorem wrap32_to {m n k : Int} (h : m = n + 4294967296 * k) : wrap32 m = wrap32 n := by rw [h, wrap32_shift]
theorem mod_k (x : Int) {A : Int} (h : A = x % 4294967296) : ∃ k, x = A + 4294967296 * k := ⟨x / 4294967296, by rw [h, Int.emod_def]; omega⟩
theorem and_or_sum (x y : Int) : wrap32 (bits .and .i32 x y + bits .or .i32 x y) = wrap32 (x + y) := by
  obtain ⟨u, v, t, A, B, h1, h2, h3, h4, h5, h6, h7, _⟩ := bits32 x y
  rw [h1, h2]
  obtain ⟨k1, e1⟩ := wrap32_k u
  obtain ⟨k2, e2⟩ := wrap32_k v
  obtain ⟨k3, e3⟩ := mod_k x h6
  obtain ⟨k4, e4⟩ := mod_k y h7
  have h8 : (u : Int) + v = A + B := by clear h6 h7 e1 e2 e3 e4 h1 h2 h3; omega
  clear h1 h2 h3 h4 h5 h6 h7
  exact wrap32_to (k := k1 + k2 - k3 - k4) (by omega)
theorem or_less_and (x y : Int) : wrap32 (bits .or .i32 x y - bits .and .i32 x y) = bits .xor .i32 x y := by
  obtain ⟨u, v, t, A, B, h1, h2, h3, h4, h5, h6, h7, _⟩ := bits32 x y
  rw [h1, h2, h3]
  obtain ⟨k1, e1⟩ := wrap32_k u
  obtain ⟨k2, e2⟩ := wrap32_k v
  have h8 : (t : Int) + u = v := by clear h6 h7 e1 e2 h1 h2 h3; omega
  clear h1 h2 h3 h4 h5 h6 h7
  exact wrap32_to (k := k2 - k1) (by omega)
theorem sub_back (a b : Int) (h0 : -2147483648 ≤ a) (h1 : a ≤ 2147483647) : wrap32 (wrap32 (a + b) - b) = a := by
  obtain ⟨k1, e1⟩ := wrap32_k (a + b)
  rw [wrap32_to (m := wrap32 (a + b) - b) (n := a) (k := k1) (by omega)]
  unfold wrap32
  omega
theorem neg_not (a : Int) : wrap32 (-(-a - 1)) = wrap32 (a + 1) := by rw [show -(-a - 1) = a + 1 by omega]
theorem not_is (x : Int) (h0 : -2147483648 ≤ x) (h1 : x ≤ 2147483647) : bits .xor .i32 (-1) x = -x - 1 := by
  obtain ⟨u, v, t, A, B, e1, e2, e3, e4, e5, e6, e7, e8⟩ := bits32 (-1) x
  have hA : A = 4294967295 := by omega
  have hu : u = B := by
    have h := Nat.and_two_pow_sub_one_eq_mod B 32
    rw [e8, hA, Nat.and_comm, show (4294967295 : Nat) = 2 ^ 32 - 1 from rfl, h]
    exact Nat.mod_eq_of_lt (by omega)
  rw [e3]
  have h8 : (t : Int) + B = 4294967295 := by omega
  clear e1 e2 e3 e4 e5 e6 e8 hA hu
  unfold wrap32
  omega
/-- a division and its rest -/
theorem div_rest (a b : Int) (hb : b ≠ 0) : ∃ r, r = a - a.tdiv b * b ∧ (0 ≤ a → 0 ≤ r) ∧ (a ≤ 0 → r ≤ 0) ∧ r.natAbs < b.natAbs := by
  have h := Int.mul_tdiv_add_tmod a b
  refine ⟨a.tmod b, by rw [Int.mul_comm (a.tdiv b) b]; omega, fun h0 => Int.tmod_nonneg b h0, fun h0 => ?_, ?_⟩
  · have := Int.tmod_nonneg b (a := -a) (by omega)
    rw [Int.neg_tmod] at this
    omega
  · rw [Int.natAbs_tmod]
    exact Nat.mod_lt _ (by omega)
end Go.Proofs.YthcjnkakfpmpbaaDoor
