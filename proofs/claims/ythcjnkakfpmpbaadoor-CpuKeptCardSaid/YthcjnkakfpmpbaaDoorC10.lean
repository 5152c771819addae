/- A new machine, and one without input. Condition: the input is short. -/
import Derived.Test.YthcjnkakfpmpbaaDoorC2
namespace Go.Proofs.YthcjnkakfpmpbaaDoor
open Go.RowKit
set_option linter.unusedVariables false
set_option linter.unusedSimpArgs false

/-- the eight registers are numbers of 32 bits, the four others are complex, the lists are lists -/
def RG (cells : List Value) : Prop := (∀ k, k < 8 → ∃ x, cells[k]? = some (.int .i32 x)) ∧ ∀ k, k < 4 → ∃ p q, cells[8 + k]? = some (.complex .f64 p q)
theorem RG.set32 {cells : List Value} (h : RG cells) (j : Nat) (hj : j < 8) (v : Int) : RG (cells.set j (.int .i32 v)) := by
  refine ⟨fun k hk => ?_, fun k hk => ?_⟩
  · by_cases e : j = k
    · subst e
      obtain ⟨x, hx⟩ := h.1 j hk
      exact ⟨v, by rw [List.getElem?_set_self (List.getElem?_eq_some_iff.1 hx).1]⟩
    · rw [List.getElem?_set_ne e]; exact h.1 k hk
  · rw [List.getElem?_set_ne (by omega)]; exact h.2 k hk
theorem RG.setC {cells : List Value} (h : RG cells) (j : Nat) (hj : j < 4) (p q : Nat) : RG (cells.set (8 + j) (.complex .f64 p q)) := by
  refine ⟨fun k hk => ?_, fun k hk => ?_⟩
  · rw [List.getElem?_set_ne (by omega)]; exact h.1 k hk
  · by_cases e : j = k
    · subst e
      obtain ⟨x, y, hx⟩ := h.2 j hk
      exact ⟨p, q, by rw [List.getElem?_set_self (List.getElem?_eq_some_iff.1 hx).1]⟩
    · rw [List.getElem?_set_ne (by omega)]; exact h.2 k hk
theorem get_set {cells : List Value} {j : Nat} {u v : Value} (h : cells[j]? = some u) : (cells.set j v)[j]? = some v := List.getElem?_set_self (List.getElem?_eq_some_iff.1 h).1
theorem get_ne {cells : List Value} {j k : Nat} {u v : Value} (h : cells[k]? = some u) (hjk : j ≠ k) : (cells.set j v)[k]? = some u := by rw [List.getElem?_set_ne hjk]; exact h

noncomputable def cells0 (v : Value) : List Value := (Tryd.zeroCells119.setIfInBounds 270 v).toList
theorem zero_at (k : Nat) (hk : k < 8) : Tryd.zeroCells119[k]? = some (.int .i32 0) := by
  rcases (show k = 0 ∨ k = 1 ∨ k = 2 ∨ k = 3 ∨ k = 4 ∨ k = 5 ∨ k = 6 ∨ k = 7 by omega) with rfl | rfl | rfl | rfl | rfl | rfl | rfl | rfl <;> kernel_rfl
theorem zero_z (k : Nat) (hk : k < 4) : Tryd.zeroCells119[8 + k]? = some (.complex .f64 0 0) := by
  rcases (show k = 0 ∨ k = 1 ∨ k = 2 ∨ k = 3 by omega) with rfl | rfl | rfl | rfl <;> kernel_rfl
theorem cells0_rg (v : Value) : RG (cells0 v) := by
  refine ⟨fun k hk => ⟨0, ?_⟩, fun k hk => ⟨0, 0, ?_⟩⟩
  · unfold cells0
    rw [Array.getElem?_toList, Array.getElem?_setIfInBounds_ne (by omega)]
    exact zero_at k hk
  · unfold cells0
    rw [Array.getElem?_toList, Array.getElem?_setIfInBounds_ne (by omega)]
    exact zero_z k hk
set_option maxRecDepth 100000 in
set_option maxHeartbeats 4000000 in
theorem new_any (A : Option Addr) (n c : Nat) (cs : List Value) (w : World) (hs : Sl w w.heap.size 1 A n cs) (h1 : ∀ u ∈ cs, u.oneCell' = true) (hn : n ≤ 4096) (hnil : A = none → n = 0 ∧ c = 0) :
    Calls Tryd.prog 33 #[.slice A n c] w fun e w' => ∃ g A' c', e = .returned (.tuple #[.pointer (some ⟨g, 0, none⟩), .int .i64 0]) ∧ w.heap.size ≤ g ∧ Blk w' g 119 (cells0 (.slice A' n c')) ∧
      w'.ownsRow w.heap.size 21 1 (.slice A' n c') n cs ∧ (∀ k, Value.ownBlock (.slice A' n c') = some k → k ≠ g) ∧ Below w.heap.size w w' := by
  have hN : (n : Int) ≤ 4096 := by omega
  go_enter Tryd.func33, Tryd.ntmps33
  go_wp2_with (first
    | (go_at_call 64; refine (clone_any A n c cs w hs h1 (by omega) hnil).mono ?_; rintro e w1 ⟨A1, c1, rfl, hown1, hb1⟩)
    | fail)
  refine bodyPost_ret (v := .tuple #[.pointer (some ⟨w1.heap.size, 0, none⟩), .int .i64 0]) (by simp [results, Tryd.results33, go_sem]) rfl ⟨w1.heap.size, A1, c1, rfl, hb1.size, ?_, ?_, ?_, hb1.alloc hb1.size _⟩
  · unfold cells0 Blk
    rw [Array.toArray_toList]
    exact heap_alloc_new w1 _
  · refine ⟨hown1.1, ?_⟩
    rcases hown1.2 with h0 | ⟨g, cap, cur, hv, hg, hh, h1⟩
    · exact .inl h0
    · exact .inr ⟨g, cap, cur, hv, hg, (Below.heap_alloc w1 _ g (Array.getElem?_eq_some_iff.1 hh).1).trans hh, h1⟩
  · intro k hk
    have := (hown1.lt k hk).2
    omega
/-- a machine without input -/
theorem fresh_nil (w : World) : Calls Tryd.prog 24 #[.slice none 0 0] w fun e w' => ∃ g cells, e = .returned (.tuple #[.pointer (some ⟨g, 0, none⟩), .bool true]) ∧ w.heap.size ≤ g ∧ Blk w' g 119 cells ∧ RG cells ∧ Below w.heap.size w w' := by
  have hne : ∀ g w, (binOp BinOp.neq 50 (.pointer (some ⟨g, 0, none⟩)) (.pointer none)).run Tryd.prog w = .ok (.bool true) w := by intro g w; kernel_rfl
  go_enter Tryd.func24, Tryd.ntmps24
  go_wp2_with (first
    | (go_at_call 33; refine (new_any none 0 0 [] w (Sl.nil_ _ _ _ _) (by simp) (by omega) (fun _ => ⟨rfl, rfl⟩)).mono ?_; rintro e w1 ⟨g, A1, c1, rfl, hg, hB, _, _, hb1⟩)
    | fail)
  refine bodyPost_ret (v := .tuple #[.pointer (some ⟨g, 0, none⟩), .bool true]) (by simp [results, Tryd.results24, go_sem]) rfl ⟨g, _, rfl, hg, hB, cells0_rg _, hb1⟩
end Go.Proofs.YthcjnkakfpmpbaaDoor
