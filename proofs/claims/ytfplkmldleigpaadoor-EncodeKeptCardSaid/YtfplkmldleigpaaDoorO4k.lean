/- A list of instructions among the arguments. No condition. -/
import Derived.Test.YtfplkmldleigpaaDoorO3
import Derived.Test.YtfplkmldleigpaaDoorE5k
namespace Go.Proofs.YtfplkmldleigpaaDoor
open Go.ChangeShapes Go.WideShapes Go.ChangeAt Go.RowKit Go.Joins Go.Deep
set_option linter.unusedVariables false

theorem cells5 {W : World} {a : Addr} {c0 c1 c2 c3 c4 : Value} (h : W.cells? 0 a 5 = some [c0, c1, c2, c3, c4]) :
    W.cell? (a.add 0) = some c0 ∧ W.cell? (a.add 1) = some c1 ∧ W.cell? (a.add 2) = some c2 ∧ W.cell? (a.add 3) = some c3 ∧ W.cell? (a.add 4) = some c4 := by
  unfold World.cells? at h
  rw [if_pos (Nat.zero_le _), show List.range 5 = [0, 1, 2, 3, 4] from rfl] at h
  simp only [List.mapM_cons, List.mapM_nil, Option.bind_eq_bind, Option.bind_eq_some_iff, Option.pure_def, Option.some.injEq, List.cons.injEq] at h
  obtain ⟨x0, h0, y0, ⟨x1, h1, y1, ⟨x2, h2, y2, ⟨x3, h3, y3, ⟨x4, h4, y4, rfl, rfl⟩, rfl⟩, rfl⟩, rfl⟩, e0, e1⟩ := h
  simp only [List.cons.injEq, and_true] at e1
  obtain ⟨e1, e2, e3, e4⟩ := e1
  subst e0 e1 e2 e3 e4
  exact ⟨h0, h1, h2, h3, h4⟩
section
variable {H : Type} {enc : TypeId × Value → H} {W : World}
theorem open_insts {u : TypeDesc} {A : Option Addr} {n c : Nat} {d : DataW H} {p : List MemPlace} (ht : Tryd.prog.underlying 64 = some (.slice 35)) (he : Tryd.prog.underlying 35 = some u) (hc : Tryd.prog.cellsOf 35 = 5)
    (h : DataW.Trod enc Tryd.prog W 0 (fun _ => true) true 64 (.slice A n c) d p) :
    ∃ l : List Ins, (Sl W W.heap.size 5 A n (insCells l) ∧ ∀ i ∈ l, i.Ok) ∧ n ≤ c ∧ n ≤ maxLen ∧ (d = .nil ∧ n = 0 ∨ ∃ elems spare, d = .slice elems spare ∧ elems.length = n) := by
  obtain ⟨fuel, hf⟩ := h
  rcases open_slice ht hf with ⟨hcs, hx⟩ | ⟨a, len, cap, m, q, D, Pl, hcs, _, hl, hm, hmm, hx, hall⟩
  · simp [Value.cells] at hcs
    obtain ⟨rfl, rfl, rfl⟩ := hcs
    simp only [Prod.mk.injEq] at hx
    exact ⟨[], ⟨Sl.nil_ _ _ _ _, by simp⟩, Nat.le_refl _, Nat.zero_le _, .inl ⟨hx.1, rfl⟩⟩
  · simp [Value.cells] at hcs
    obtain ⟨rfl, rfl, rfl⟩ := hcs
    simp only [if_true] at hmm
    subst hmm
    simp only [Prod.mk.injEq] at hx
    rw [hc] at hall
    have hins : ∀ i, i < n → ∃ x : Ins, x.Ok ∧ W.cells? 0 (a.add (i * 5)) 5 = some x.cells := by
      intro i hi
      obtain ⟨cs', h1, h2⟩ := hall i (by omega)
      obtain ⟨x, hx1, hx2, _⟩ := cells_of_inst h2
      exact ⟨x, hx1, by rw [h1, hx2]⟩
    haveI : Inhabited Ins := ⟨⟨0, 0, 0, 0, 0⟩⟩
    obtain ⟨f, hfi⟩ := choose_lt hins
    refine ⟨(List.range n).map f, ⟨⟨by rw [insCells_length]; simp, fun hn => ?_⟩, ?_⟩, hl, by omega, .inr ⟨_, _, hx.1, by simp⟩⟩
    · obtain ⟨b, o, spot⟩ := a
      have h0 := (cells5 (hfi 0 hn).2).1
      have hspot : spot = none := by simpa [Addr.add] using World.cell?_spot h0
      subst hspot
      refine ⟨b, o, rfl, by simpa [Addr.add] using World.block_lt_of_cell? _ _ h0, fun j v hj => ?_⟩
      have hj5 : j < n * 5 := by
        have := (List.getElem?_eq_some_iff.1 hj).1
        rw [insCells_length] at this
        simpa using this
      have hk : ((List.range n).map f)[j / 5]? = some (f (j / 5)) := by rw [List.getElem?_map, List.getElem?_range (by omega)]; rfl
      have h5 := flat5 Ins.cells (fun _ => rfl) ((List.range n).map f) (j / 5) _ hk (j % 5) (by omega)
      rw [show j / 5 * 5 + j % 5 = j by omega] at h5
      unfold insCells at hj
      rw [h5] at hj
      obtain ⟨g0, g1, g2, g3, g4⟩ := cells5 (hfi (j / 5) (by omega)).2
      simp only [add_flat] at g0 g1 g2 g3 g4
      have e : o + j = o + j / 5 * 5 + j % 5 := by omega
      rw [e]
      have hr : j % 5 = 0 ∨ j % 5 = 1 ∨ j % 5 = 2 ∨ j % 5 = 3 ∨ j % 5 = 4 := by omega
      rcases hr with hr | hr | hr | hr | hr <;> rw [hr] at hj ⊢ <;> simp [Ins.cells] at hj <;> subst hj
      · exact g0
      · exact g1
      · exact g2
      · exact g3
      · exact g4
    · intro i hi
      obtain ⟨j, hj, rfl⟩ := List.mem_map.1 hi
      exact (hfi j (List.mem_range.1 hj)).1
end
end Go.Proofs.YtfplkmldleigpaaDoor
