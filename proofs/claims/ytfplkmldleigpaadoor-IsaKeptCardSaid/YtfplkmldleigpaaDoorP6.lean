/- Plain words on instructions: what is right, how long. No program in sight. No condition. -/
import Derived.Test.YtfplkmldleigpaaDoorP5
namespace Go.Proofs.YtfplkmldleigpaaDoor
open Go.RowKit

def spansB (op : Int) : Bool := opShape op == 12 || opShape op == 13
/-- how many registers may be named first, and second -/
def limA (s : Int) : Int := if s = 2 ∨ s = 4 ∨ s = 6 ∨ s = 8 ∨ s = 10 ∨ s = 11 ∨ s = 13 then 8 else if s = 3 ∨ s = 5 ∨ s = 7 then 4 else 0
def limB (s : Int) : Int := if s = 4 ∨ s = 7 then 8 else if s = 5 ∨ s = 6 then 4 else 0
def okLim (x lim : Int) : Bool := if lim = 0 then decide (x = 0) else decide (0 ≤ x ∧ x < lim)
def regB (s a b n : Int) : Bool := okLim a (limA s) && okLim b (limB s) && (decide (s ≠ 7) || decide (0 ≤ n ∧ n < 8))
def numB (s n f : Int) : Bool :=
  if s = 8 then decide (-128 ≤ n ∧ n ≤ 127) else if s = 9 then decide (0 ≤ n ∧ n ≤ 255) else if s = 10 ∨ s = 7 then true else if s = 11 then decide (0 ≤ n ∧ n ≤ 4095) else if s = 12 ∨ s = 13 then fitsB n f else decide (n = 0)
/-- what is wrong with an instruction -/
def checkR (op a b n f : Int) : Int :=
  if isOp op = false then 11 else if regB (opShape op) a b n = false then 12 else if (spansB op = false ∧ f ≠ 0) ∨ numB (opShape op) n f = false then 13 else 0
/-- how many bytes an operation has with a form -/
def sizeR (s f : Int) : Int := if s = 1 then 1 else if s = 7 ∨ s = 8 then 3 else if s = 10 then 6 else if s = 11 then 4 else if s = 12 then 1 + f else if s = 13 then 2 + f else 2
def lenR (op a b n f : Int) : Int := if checkR op a b n f = 0 then sizeR (opShape op) f else 0
theorem checkR_bounds (op a b n f : Int) : checkR op a b n f = 0 ∨ checkR op a b n f = 11 ∨ checkR op a b n f = 12 ∨ checkR op a b n f = 13 := by
  unfold checkR
  split
  · exact .inr (.inl rfl)
  split
  · exact .inr (.inr (.inl rfl))
  split
  · exact .inr (.inr (.inr rfl))
  · exact .inl rfl
theorem checkR_form {op a b n f : Int} (h : checkR op a b n f = 0) : f = 0 ∨ f = 1 ∨ f = 2 ∨ f = 4 := by
  unfold checkR at h
  split at h
  · cases h
  split at h
  · cases h
  split at h
  · cases h
  rename_i h1 h2 h3
  rw [not_or] at h3
  by_cases hs : spansB op = false
  · left
    have := h3.1
    simp only [hs, true_and, ne_eq, Classical.not_not] at this
    exact this
  · have hsp : opShape op = 12 ∨ opShape op = 13 := by
      simp only [spansB, Bool.or_eq_false_iff, beq_eq_false_iff_ne, ne_eq, not_and, Classical.not_not] at hs
      by_cases h12 : opShape op = 12
      · exact .inl h12
      · exact .inr (hs h12)
    have hn : numB (opShape op) n f = true := by simpa using h3.2
    right
    rcases width_cases f with rfl | rfl | rfl | hf
    · exact .inl rfl
    · exact .inr (.inl rfl)
    · exact .inr (.inr rfl)
    · exfalso
      unfold numB at hn
      rcases hsp with e | e <;> rw [e] at hn <;> simp [fitsB_not hf] at hn
theorem thirteen {s : Int} (h : 1 ≤ s ∧ s ≤ 13) : s = 1 ∨ s = 2 ∨ s = 3 ∨ s = 4 ∨ s = 5 ∨ s = 6 ∨ s = 7 ∨ s = 8 ∨ s = 9 ∨ s = 10 ∨ s = 11 ∨ s = 12 ∨ s = 13 := by omega
end Go.Proofs.YtfplkmldleigpaaDoor
