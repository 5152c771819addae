/- A list of numbers of 32 bits among the arguments. No condition. -/
import Derived.Test.YthcjnkakfpmpbaaDoorO1
import Derived.Test.YthcjnkakfpmpbaaDoorA2i
namespace Go.Proofs.YthcjnkakfpmpbaaDoor
open Go.ChangeShapes Go.WideShapes Go.ChangeAt Go.RowKit
set_option linter.unusedVariables false

section
variable {H : Type} {enc : TypeId × Value → H} {P : Program} {W : World}
theorem open_i32s {t e : TypeId} {A : Option Addr} {n c : Nat} {d : DataW H} {p : List MemPlace} (ht : P.underlying t = some (.slice e)) (he : P.underlying e = some (.int .i32)) (hc : P.cellsOf e = 1)
    (h : DataW.Trod enc P W 0 (fun _ => true) true t (.slice A n c) d p) :
    ∃ l : List Int, (Sl W W.heap.size 1 A n (is32 l) ∧ (A = none → n = 0 ∧ c = 0)) ∧ n ≤ c ∧ n ≤ maxLen ∧ (d = .nil ∧ n = 0 ∨ ∃ elems spare, d = .slice elems spare ∧ elems.length = n) := by
  obtain ⟨fuel, hf⟩ := h
  rcases open_ints ht he hc hf with ⟨hcs, hx⟩ | ⟨a, len, cap, zs, hcs, _, hl, hm, hz, hx, hcell, hwz⟩
  · simp [Value.cells] at hcs
    obtain ⟨rfl, rfl, rfl⟩ := hcs
    simp only [Prod.mk.injEq] at hx
    exact ⟨[], ⟨Sl.nil_ _ _ _ _, fun _ => ⟨rfl, rfl⟩⟩, Nat.le_refl _, Nat.zero_le _, .inl ⟨hx.1, rfl⟩⟩
  · simp [Value.cells] at hcs
    obtain ⟨rfl, rfl, rfl⟩ := hcs
    simp only [if_true] at hz
    simp only [Prod.mk.injEq] at hx
    refine ⟨zs.take n, ⟨⟨by simp [is32_length, hz]; omega, fun hn => ?_⟩, fun e => by cases e⟩, hl, by omega, .inr ⟨_, _, hx.1, by simp [lits, hz]; omega⟩⟩
    obtain ⟨b, o, spot⟩ := a
    have h0 := hcell 0 (by omega)
    have hspot : spot = none := by simpa [Addr.add] using World.cell?_spot h0
    subst hspot
    refine ⟨b, o, rfl, by simpa [Addr.add] using World.block_lt_of_cell? _ _ h0, fun j u hu => ?_⟩
    rw [is32_get] at hu
    obtain ⟨x, hx1, rfl⟩ := Option.map_eq_some_iff.1 hu
    rw [List.getElem?_take] at hx1
    split at hx1
    · have hj := hcell j (by omega)
      rw [add_flat] at hj
      rw [hj]
      simp [List.getD, hx1]
    · cases hx1
end
end Go.Proofs.YthcjnkakfpmpbaaDoor
