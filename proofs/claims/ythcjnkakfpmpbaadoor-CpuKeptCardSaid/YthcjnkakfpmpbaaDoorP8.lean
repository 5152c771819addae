/- Plain words on the encoding of an instruction: what bytes it has. No program in sight. No condition. -/
import Derived.Test.YthcjnkakfpmpbaaDoorP6
import Derived.Test.YthcjnkakfpmpbaaDoorP2
namespace Go.Proofs.YthcjnkakfpmpbaaDoor
open Go.RowKit

/-- the bytes that name registers -/
def tailA (s a b n : Int) : List UInt8 :=
  if s = 4 ∨ s = 5 ∨ s = 6 then [lowB (16 * a + b)] else if s = 7 then [lowB a, lowB (16 * b + n)] else if s = 2 ∨ s = 3 ∨ s = 8 ∨ s = 10 ∨ s = 11 ∨ s = 13 then [lowB a] else []
/-- how many bytes the number has -/
def widthE (s f : Int) : Int := if s = 8 ∨ s = 9 then 1 else if s = 11 then 2 else if s = 10 then 4 else if s = 12 ∨ s = 13 then f else 0
def addF (f : Int) : Int := if f = 2 then 1 else if f = 4 then 2 else 0
/-- an instruction's bytes -/
def encR (op a b n f : Int) : List UInt8 := lowB (opByte op + addF f) :: (tailA (opShape op) a b n ++ le (n % 4294967296) (widthE (opShape op) f).toNat)

theorem putL_e {l : List UInt8} {x W : Int} (h : W = 0 ∨ W = 1 ∨ W = 2 ∨ W = 4) : putL l x W = l ++ le x W.toNat := by
  rcases h with rfl | rfl | rfl | rfl
  · rw [putL_no (by decide)]; simp [le]
  · exact putL_yes (by decide)
  · exact putL_yes (by decide)
  · exact putL_yes (by decide)
/-- what is right of a right instruction -/
theorem checkR_parts {op a b n f : Int} (h : checkR op a b n f = 0) :
    isOp op = true ∧ regB (opShape op) a b n = true ∧ (spansB op = false → f = 0) ∧ numB (opShape op) n f = true := by
  unfold checkR at h
  split at h
  · cases h
  split at h
  · cases h
  split at h
  · cases h
  rename_i h1 h2 h3
  rw [not_or] at h3
  refine ⟨by simpa using h1, by simpa using h2, fun hs => ?_, by simpa using h3.2⟩
  have := h3.1
  simp only [hs, true_and, ne_eq, Classical.not_not] at this
  exact this
theorem okLim_bounds {x l : Int} (h : okLim x l = true) (hl : l = 0 ∨ l = 4 ∨ l = 8) : 0 ≤ x ∧ x < 8 := by
  unfold okLim at h
  split at h
  · have := of_decide_eq_true h; omega
  · have := of_decide_eq_true h; omega
theorem limA_cases (s : Int) : limA s = 0 ∨ limA s = 4 ∨ limA s = 8 := by unfold limA; split <;> (try split) <;> simp
theorem limB_cases (s : Int) : limB s = 0 ∨ limB s = 4 ∨ limB s = 8 := by unfold limB; split <;> (try split) <;> simp
theorem regB_bounds {s a b n : Int} (h : regB s a b n = true) : (0 ≤ a ∧ a < 8) ∧ (0 ≤ b ∧ b < 8) ∧ (s = 7 → 0 ≤ n ∧ n < 8) := by
  unfold regB at h
  simp only [Bool.and_eq_true, Bool.or_eq_true, decide_eq_true_eq] at h
  refine ⟨okLim_bounds h.1.1 (limA_cases s), okLim_bounds h.1.2 (limB_cases s), fun hs => ?_⟩
  rcases h.2 with h2 | h2
  · exact absurd hs h2
  · exact h2
end Go.Proofs.YthcjnkakfpmpbaaDoor
