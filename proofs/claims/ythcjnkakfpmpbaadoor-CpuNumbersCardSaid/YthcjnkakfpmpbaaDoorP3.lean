/- Plain words on reading numbers and texts out of bytes. No program in sight. No condition. -/
import Derived.Test.YthcjnkakfpmpbaaDoorP2
import Derived.Laws.BitsAllLaws
import Derived.Laws.IdiomStrings
import Derived.Laws.BytesArg
namespace Go.Proofs.YthcjnkakfpmpbaaDoor
open Go.RowKit

/-- the number that bytes say, the lowest first -/
def leVal : List UInt8 → Int
  | [] => 0
  | x :: r => (x.toNat : Int) + 256 * leVal r
theorem leVal_bounds (l : List UInt8) : 0 ≤ leVal l ∧ leVal l < 256 ^ l.length := by
  induction l with
  | nil => simp [leVal]
  | cons x r ih =>
    have hx : x.toNat < 256 := x.toNat_lt
    simp only [leVal, List.length_cons, Int.pow_succ]
    omega
/-- what Get comes to: the number, and what is wrong -/
def getR (l : List UInt8) (at_ width : Int) : Int × Int :=
  if legalB width = false ∨ at_ < 0 ∨ (l.length : Int) < at_ then (0, 1)
  else if (l.length : Int) - at_ < width then (0, 10)
  else (leVal ((l.drop at_.toNat).take width.toNat), 0)
theorem getR_arg {l : List UInt8} {at_ width : Int} (h : legalB width = false ∨ at_ < 0 ∨ (l.length : Int) < at_) : getR l at_ width = (0, 1) := by
  unfold getR; rw [if_pos h]
theorem getR_end {l : List UInt8} {at_ width : Int} (h1 : legalB width = true) (h2 : 0 ≤ at_) (h3 : at_ ≤ l.length) (h4 : (l.length : Int) - at_ < width) : getR l at_ width = (0, 10) := by
  unfold getR
  rw [if_neg (by simp [h1]; omega), if_pos h4]
theorem getR_ok {l : List UInt8} {at_ width : Int} (h1 : legalB width = true) (h2 : 0 ≤ at_) (h3 : at_ ≤ l.length) (h4 : width ≤ (l.length : Int) - at_) :
    getR l at_ width = (leVal ((l.drop at_.toNat).take width.toNat), 0) := by
  unfold getR
  rw [if_neg (by simp [h1]; omega), if_neg (by omega)]
theorem getR_bounds (l : List UInt8) (at_ width : Int) : 0 ≤ (getR l at_ width).1 ∧ (getR l at_ width).1 < 4294967296 := by
  unfold getR
  split
  · simp
  split
  · simp
  rename_i h1 h2
  have hb := leVal_bounds ((l.drop at_.toNat).take width.toNat)
  have hl : ((l.drop at_.toNat).take width.toNat).length ≤ 4 := by
    have hw : legalB width = true := by
      cases h : legalB width
      · exact absurd (.inl h) h1
      · rfl
    rcases width_cases width with rfl | rfl | rfl | h
    · simp; omega
    · simp; omega
    · simp; omega
    · rw [legalB_not h] at hw; cases hw
  refine ⟨hb.1, Int.lt_of_lt_of_le hb.2 ?_⟩
  rcases (show ((l.drop at_.toNat).take width.toNat).length = 0 ∨ ((l.drop at_.toNat).take width.toNat).length = 1 ∨ ((l.drop at_.toNat).take width.toNat).length = 2 ∨ ((l.drop at_.toNat).take width.toNat).length = 3 ∨ ((l.drop at_.toNat).take width.toNat).length = 4 by omega) with h | h | h | h | h <;> rw [h] <;> decide

theorem or_low (y : Int) (x : UInt8) (h0 : 0 ≤ y) (h1 : y < 16777216) : bits .or .u32 (y * 256) (x.toNat : Int) = y * 256 + (x.toNat : Int) := by
  obtain ⟨Y, rfl⟩ := Int.eq_ofNat_of_zero_le h0
  have hx : x.toNat < 2 ^ 8 := x.toNat_lt
  have e : ((Y : Int) * 256) = ((Y * 256 : Nat) : Int) := by omega
  rw [e, u32_or_nat _ _ (by omega) (by omega)]
  have := Nat.shiftLeft_add_eq_or_of_lt hx Y
  rw [Nat.shiftLeft_eq] at this
  have e2 : Y * 256 ||| x.toNat = Y * 256 + x.toNat := by rw [show (256 : Nat) = 2 ^ 8 from rfl, this]
  rw [e2]
  omega

/-- one more byte, ahead -/
theorem leVal_step {l : List UInt8} {a k W : Nat} {x : UInt8} (hx : l[a + k]? = some x) (hk : k < W) :
    leVal ((l.drop (a + k)).take (W - k)) = (x.toNat : Int) + 256 * leVal ((l.drop (a + (k + 1))).take (W - (k + 1))) := by
  obtain ⟨hlt, rfl⟩ := List.getElem?_eq_some_iff.1 hx
  rw [List.drop_eq_getElem_cons hlt, show W - k = (W - (k + 1)) + 1 by omega, List.take_succ_cons, leVal, Nat.add_assoc]
theorem leVal_small {l : List UInt8} {a k W : Nat} (hk : k < W) (hW : W ≤ 4) : leVal ((l.drop (a + (k + 1))).take (W - (k + 1))) < 16777216 := by
  have hb := leVal_bounds ((l.drop (a + (k + 1))).take (W - (k + 1)))
  have hl : ((l.drop (a + (k + 1))).take (W - (k + 1))).length ≤ 3 := by simp; omega
  refine Int.lt_of_lt_of_le hb.2 ?_
  generalize ((l.drop (a + (k + 1))).take (W - (k + 1))).length = m at hl
  rcases (show m = 0 ∨ m = 1 ∨ m = 2 ∨ m = 3 by omega) with h | h | h | h <;> rw [h] <;> decide

theorem getR_zero {l : List UInt8} {at_ width v : Int} (h : (v, 0) = getR l at_ width) : 0 ≤ at_ ∧ at_ + width ≤ l.length := by
  unfold getR at h
  split at h
  · simp at h
  split at h
  · simp at h
  omega
/-- what GetText comes to: the text, the place behind it, what is wrong -/
def getTextR (l : List UInt8) (at_ most : Int) : List UInt8 × Int × Int :=
  if (getR l at_ 2).2 ≠ 0 then ([], 0, (getR l at_ 2).2)
  else if most < (getR l at_ 2).1 then ([], 0, 3)
  else if (l.length : Int) - (at_ + 2) < (getR l at_ 2).1 then ([], 0, 10)
  else ((l.drop (at_ + 2).toNat).take (getR l at_ 2).1.toNat, at_ + 2 + (getR l at_ 2).1, 0)

/-- string(b), b a slice of bytes -/
theorem run_str {P : Program} {w : World} {B n c : Nat} {A : Option Addr} {l : List UInt8} (src dst e : TypeId) (hs : P.underlying src = some (.slice e)) (he : P.underlying e = some (.int .u8)) (hd : P.underlying dst = some .string)
    (h : Sl w B 1 A n (bs l)) (hA : A = none → n = 0) : (convert src dst (.slice A n c)).run P w = .ok (.string ⟨l.toArray⟩) w := by
  have hl : l.length = n := by have := h.len; rw [bs_length] at this; omega
  cases A with
  | none =>
    have h0 := hA rfl
    subst h0
    obtain rfl := List.eq_nil_of_length_eq_zero hl
    exact run_convert_bytes_nil w src e hs he 0 c dst hd
  | some ad =>
    subst hl
    refine run_convert_bytes_back w src dst e ad c l hs he hd fun j hj => ?_
    obtain ⟨b, o, x, hA, _, hx, hc⟩ := h.byte hj
    injection hA with hA
    subst hA
    rw [add_flat, hc]
    rw [List.getElem?_eq_getElem hj] at hx
    injection hx with hx
    rw [hx]
/-- b[i:j] -/
theorem Sl.mid {w : World} {B n b o : Nat} {l : List UInt8} (h : Sl w B 1 (some ⟨b, o, none⟩) n (bs l)) {i m : Nat} (hi : i + m ≤ n) (hb : b < B) : Sl w B 1 (some ⟨b, o + i, none⟩) m (bs ((l.drop i).take m)) := by
  have hl : l.length = n := by have := h.len; rw [bs_length] at this; omega
  refine ⟨by simp [bs_length]; omega, fun hm => ⟨b, o + i, rfl, hb, fun j u hu => ?_⟩⟩
  obtain ⟨b', o', e, _, hc⟩ := h.at_ (by omega)
  injection e with e
  injection e with e1 e2
  subst e1
  subst e2
  rw [bs_get, List.getElem?_take] at hu
  split at hu
  · rw [Nat.add_assoc]
    exact hc (i + j) u (by rw [bs_get, ← List.getElem?_drop]; exact hu)
  · simp at hu
theorem Sl.none_len {w : World} {B sz n : Nat} {cs : List Value} (h : Sl w B sz none n cs) : n = 0 := by
  rcases Nat.eq_zero_or_pos n with h0 | h0
  · exact h0
  · obtain ⟨_, _, h, _⟩ := h.at_ h0
    cases h
end Go.Proofs.YthcjnkakfpmpbaaDoor
