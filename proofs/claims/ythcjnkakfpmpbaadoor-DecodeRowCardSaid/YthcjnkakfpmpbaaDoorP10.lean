/- Plain words: what is encoded is decoded, and what is decoded is encoded. Conditions: none. -/
import Derived.Test.YthcjnkakfpmpbaaDoorD11
import Derived.Test.YthcjnkakfpmpbaaDoorP4
import Derived.Test.YthcjnkakfpmpbaaDoorP9
namespace Go.Proofs.YthcjnkakfpmpbaaDoor
open Go.RowKit
set_option linter.unusedVariables false
set_option linter.unusedSimpArgs false

theorem byteD_enc : ∀ k : Nat, k < 43 → ∀ f ∈ formsOf (opShape ((k : Int) + 1)), byteD (opByte ((k : Int) + 1) + addF f) = ((k : Int) + 1, f) := by decide +kernel
theorem byteD_dec : ∀ c : Nat, c < 256 → (byteD c).1 ≠ 0 → opByte (byteD c).1 + addF (byteD c).2 = c := by decide +kernel
theorem rb_app (l r : List UInt8) (k : Nat) : rb (l ++ r) (l.length + k) = rb r k := by
  unfold rb
  rw [List.getD_eq_getElem?_getD, List.getD_eq_getElem?_getD, List.getElem?_append_right (by omega), show l.length + k - l.length = k by omega]
theorem rb_cons0 (x : UInt8) (r : List UInt8) : rb (x :: r) 0 = (x.toNat : Int) := rfl
theorem rb_cons1 (x y : UInt8) (r : List UInt8) : rb (x :: y :: r) 1 = (y.toNat : Int) := rfl
theorem sizeR_enc {op a b n f : Int} (h : checkR op a b n f = 0) : ((encR op a b n f).length : Int) = sizeR (opShape op) f := by
  have := (encR_len h).1
  unfold lenR at this
  rwa [if_pos h] at this

theorem told_back (pre t : List UInt8) (x : Int) (W : Nat) (s : Int) (h : legalB (W : Int) = true) : toldR (pre ++ (le x W ++ t)) pre.length W s = if s = 9 ∨ s = 11 then x % 256 ^ W else sgn (x % 256 ^ W) W := by
  unfold toldR
  rw [getR_back pre t x W h]
theorem told1 (x : UInt8) (t : List UInt8) (y : Int) (W : Nat) (s : Int) (h : legalB (W : Int) = true) : toldR (x :: (le y W ++ t)) 1 W s = if s = 9 ∨ s = 11 then y % 256 ^ W else sgn (y % 256 ^ W) W := told_back [x] t y W s h
theorem told0 (t : List UInt8) (y : Int) (W : Nat) (s : Int) (h : legalB (W : Int) = true) : toldR (le y W ++ t) 0 W s = if s = 9 ∨ s = 11 then y % 256 ^ W else sgn (y % 256 ^ W) W := told_back [] t y W s h
theorem sgn_small {n : Int} {W : Nat} (hW : W = 1 ∨ W = 2 ∨ W = 4) (h : fitsB n W = true) (hn : -2147483648 ≤ n ∧ n ≤ 2147483647) : sgn (n % 4294967296 % 256 ^ W) W = n := by
  rcases hW with rfl | rfl | rfl <;> simp [fitsB] at h <;> simp [sgn] <;> omega
theorem insD_enc {op a b n f : Int} (be : List UInt8) (h : checkR op a b n f = 0) (hn : -2147483648 ≤ n ∧ n ≤ 2147483647) :
    insD op f (opShape op) ((tailA (opShape op) a b n ++ le (n % 4294967296) (widthE (opShape op) f).toNat) ++ be) = ⟨op, a, b, n, f⟩ := by
  obtain ⟨h1, h2, h3, h4⟩ := checkR_parts h
  have hf := checkR_forms h
  have hs := (shape_bounds op).1 h1
  obtain ⟨⟨ha0, ha1⟩, ⟨hb0, hb1⟩, hn7⟩ := regB_bounds h2
  unfold regB at h2
  simp only [Bool.and_eq_true] at h2
  obtain ⟨⟨hA, hB⟩, _⟩ := h2
  clear h1 h3 h
  generalize opShape op = s at *
  have G1 := fun (W : Nat) hW => getR_back [lowB a] be (n % 4294967296) W hW
  have G0 := fun (W : Nat) hW => getR_back [] be (n % 4294967296) W hW
  have e256 : ∀ x : Int, (((lowB x).toNat : Nat) : Int) = x % 256 := lowB_toNat
  rcases thirteen hs with rfl | rfl | rfl | rfl | rfl | rfl | rfl | rfl | rfl | rfl | rfl | rfl | rfl <;>
    simp [limA, limB, okLim, numB, formsOf] at hA hB h4 hf hn7
  · simp [insD, hA, hB, h4]
  · simp [insD, tailA, widthE, le, rb_cons0, e256]; omega
  · simp [insD, tailA, widthE, le, rb_cons0, e256]; omega
  · simp [insD, tailA, widthE, le, rb_cons0, e256]; omega
  · simp [insD, tailA, widthE, le, rb_cons0, e256]; omega
  · simp [insD, tailA, widthE, le, rb_cons0, e256]; omega
  · simp [insD, tailA, widthE, le, rb_cons0, rb_cons1, e256]; omega
  · have t := told1 (lowB a) be (n % 4294967296) 1 8 rfl
    have t2 := sgn_small (n := n) (W := 1) (.inl rfl) (by simp [fitsB]; omega) hn
    simp only [show ((1 : Nat) : Int) = 1 from rfl] at t t2
    simp [insD, tailA, widthE, rb_cons0, e256, widthD, hB]
    rw [t]
    simp only [show ¬ ((8 : Int) = 9 ∨ (8 : Int) = 11) by decide, if_false, t2, and_true]
    omega
  · have t := told0 be (n % 4294967296) 1 9 rfl
    simp only [show ((1 : Nat) : Int) = 1 from rfl] at t
    simp [insD, tailA, widthE, widthD, hA, hB]
    rw [t]
    simp
    omega
  · have t := told1 (lowB a) be (n % 4294967296) 4 10 rfl
    have t2 := sgn_small (n := n) (W := 4) (.inr (.inr rfl)) (by simp [fitsB]) hn
    simp only [show ((4 : Nat) : Int) = 4 from rfl] at t t2
    simp [insD, tailA, widthE, rb_cons0, e256, widthD, hB]
    rw [t]
    simp only [show ¬ ((10 : Int) = 9 ∨ (10 : Int) = 11) by decide, if_false, t2, and_true]
    omega
  · have t := told1 (lowB a) be (n % 4294967296) 2 11 rfl
    simp only [show ((2 : Nat) : Int) = 2 from rfl] at t
    simp [insD, tailA, widthE, rb_cons0, e256, widthD, hB]
    rw [t]
    simp
    omega
  · rcases hf with rfl | rfl | rfl
    all_goals simp [insD, tailA, widthE, widthD, hA, hB]
    · have t := told0 be (n % 4294967296) 1 12 rfl
      have t2 := sgn_small (n := n) (W := 1) (.inl rfl) h4 hn
      simp only [show ((1 : Nat) : Int) = 1 from rfl] at t t2
      rw [t]
      simp only [show ¬ ((12 : Int) = 9 ∨ (12 : Int) = 11) by decide, if_false, t2]
    · have t := told0 be (n % 4294967296) 2 12 rfl
      have t2 := sgn_small (n := n) (W := 2) (.inr (.inl rfl)) h4 hn
      simp only [show ((2 : Nat) : Int) = 2 from rfl] at t t2
      rw [t]
      simp only [show ¬ ((12 : Int) = 9 ∨ (12 : Int) = 11) by decide, if_false, t2]
    · have t := told0 be (n % 4294967296) 4 12 rfl
      have t2 := sgn_small (n := n) (W := 4) (.inr (.inr rfl)) h4 hn
      simp only [show ((4 : Nat) : Int) = 4 from rfl] at t t2
      rw [t]
      simp only [show ¬ ((12 : Int) = 9 ∨ (12 : Int) = 11) by decide, if_false, t2]
  · rcases hf with rfl | rfl | rfl
    all_goals simp [insD, tailA, widthE, rb_cons0, e256, widthD, hB]
    · have t := told1 (lowB a) be (n % 4294967296) 1 13 rfl
      have t2 := sgn_small (n := n) (W := 1) (.inl rfl) h4 hn
      simp only [show ((1 : Nat) : Int) = 1 from rfl] at t t2
      rw [t]
      simp only [show ¬ ((13 : Int) = 9 ∨ (13 : Int) = 11) by decide, if_false, t2, and_true]
      omega
    · have t := told1 (lowB a) be (n % 4294967296) 2 13 rfl
      have t2 := sgn_small (n := n) (W := 2) (.inr (.inl rfl)) h4 hn
      simp only [show ((2 : Nat) : Int) = 2 from rfl] at t t2
      rw [t]
      simp only [show ¬ ((13 : Int) = 9 ∨ (13 : Int) = 11) by decide, if_false, t2, and_true]
      omega
    · have t := told1 (lowB a) be (n % 4294967296) 4 13 rfl
      have t2 := sgn_small (n := n) (W := 4) (.inr (.inr rfl)) h4 hn
      simp only [show ((4 : Nat) : Int) = 4 from rfl] at t t2
      rw [t]
      simp only [show ¬ ((13 : Int) = 9 ∨ (13 : Int) = 11) by decide, if_false, t2, and_true]
      omega

/-- what is encoded is decoded, wherever it stands -/
theorem dec_enc (ah be : List UInt8) {op a b n f : Int} (h : checkR op a b n f = 0) (hn : -2147483648 ≤ n ∧ n ≤ 2147483647) :
    decR (ah ++ (encR op a b n f ++ be)) ah.length = ((⟨op, a, b, n, f⟩ : Ins), ((encR op a b n f).length : Int), (0 : Int)) := by
  have hI := insD_enc be h hn
  have hz := sizeR_enc h
  have hf := checkR_forms h
  obtain ⟨h1, _⟩ := checkR_parts h
  have hop := h1
  simp only [isOp, decide_eq_true_eq] at h1
  have hb : byteD (rb (ah ++ (encR op a b n f ++ be)) ah.length) = (op, f) := by
    have e0 := rb_app ah (encR op a b n f ++ be) 0
    rw [Nat.add_zero] at e0
    rw [e0]
    unfold encR
    rw [List.cons_append, rb_cons0, lowB_toNat]
    obtain ⟨k, rfl⟩ : ∃ k : Nat, op = (k : Int) + 1 := ⟨(op - 1).toNat, by omega⟩
    have hk : k < 43 := by omega
    have b1 := byte_small k hk
    have c1 := addF_small f
    rw [show (opByte ((k : Int) + 1) + addF f) % 256 = opByte ((k : Int) + 1) + addF f by omega]
    exact byteD_enc k hk f hf
  have hp : 0 < (encR op a b n f).length := by rw [encR_length]; omega
  unfold decR
  rw [if_neg (by simp; omega), if_neg (by simp; omega)]
  simp only [Int.toNat_natCast, hb]
  rw [if_neg (by omega), if_neg (by simp; omega)]
  have hd : (ah ++ (encR op a b n f ++ be)).drop ((ah.length : Int) + 1).toNat = (tailA (opShape op) a b n ++ le (n % 4294967296) (widthE (opShape op) f).toNat) ++ be := by
    rw [show ((ah.length : Int) + 1).toNat = ah.length + 1 by omega, List.drop_append]
    unfold encR
    simp
  rw [hd, hI]
  simp only [h, if_true, hz]
end Go.Proofs.YthcjnkakfpmpbaaDoor
