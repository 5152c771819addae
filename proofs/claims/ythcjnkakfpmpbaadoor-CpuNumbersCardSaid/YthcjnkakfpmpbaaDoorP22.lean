/- A double's sign turned: what it stands for changes its sign. No program in sight. Condition: none. -/
import Derived.Test.YthcjnkakfpmpbaaDoorP20
import Derived.WalkKit
namespace Go.Proofs.YthcjnkakfpmpbaaDoor

theorem flip_parts (x : Nat) : (x ^^^ 2 ^ 63) % 2 ^ 63 = x % 2 ^ 63 ∧ ((x ^^^ 2 ^ 63) / 2 ^ 63 % 2 == 1) = !(x / 2 ^ 63 % 2 == 1) := by
  refine ⟨?_, ?_⟩
  · rw [Nat.xor_mod_two_pow, Nat.mod_self, Nat.xor_zero]
  · rw [Nat.xor_div_two_pow, Nat.div_self (by decide)]
    have h := Nat.xor_mod_two_eq_one (a := x / 2 ^ 63) (b := 1)
    have h1 : x / 2 ^ 63 % 2 = 0 ∨ x / 2 ^ 63 % 2 = 1 := by omega
    have h2 : (x / 2 ^ 63 ^^^ 1) % 2 = 0 ∨ (x / 2 ^ 63 ^^^ 1) % 2 = 1 := by omega
    generalize (x / 2 ^ 63 ^^^ 1) % 2 = u at *
    generalize x / 2 ^ 63 % 2 = v at *
    rcases h1 with rfl | rfl <;> rcases h2 with rfl | rfl <;> simp at h ⊢
theorem Rep.neg {x : Nat} {n : Int} (h : Rep x n) : Rep (Op.negFloat .f64 x) (-n) := by
  obtain ⟨s, m, e, h1, h2⟩ := h
  refine ⟨!s, m, e, ?_, h2.opp⟩
  have hs : Ieee.double.signWeight = 2 ^ 63 := by decide
  have hx : Op.negFloat .f64 x = x ^^^ 2 ^ 63 := rfl
  obtain ⟨p1, p2⟩ := flip_parts x
  rw [hx]
  unfold Ieee.Format.read at h1 ⊢
  rw [hs] at h1 ⊢
  simp only [p1, p2]
  simp only at h1
  split at h1
  · rename_i hc
    rw [if_pos hc]
    injection h1 with a1 a2 a3
    subst a1 a2 a3
    rfl
  · rename_i hc
    rw [if_neg hc]
    split at h1
    · rename_i hd
      rw [if_pos hd]
      injection h1 with a1 a2 a3
      subst a1 a2 a3
      rfl
    · split at h1 <;> cases h1
end Go.Proofs.YthcjnkakfpmpbaaDoor
