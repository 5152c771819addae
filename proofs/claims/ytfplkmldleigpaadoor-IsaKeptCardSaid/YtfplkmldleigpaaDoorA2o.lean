/- Same at operations, of the table's; Ops told with the room behind it. Conditions: none. -/
import Derived.Test.YtfplkmldleigpaaDoorB11
import Derived.Deep.QuietTactic
import Derived.BigQuiet
namespace Go.Proofs.YtfplkmldleigpaaDoor
open Go.RowKit
set_option linter.unusedVariables false
set_option linter.unusedSimpArgs false

theorem op_cells {W : World} {b o : Nat} (h : Has W b o tabCells) {k : Nat} (hk : k < 43) :
    W.cell? ⟨b, o + k * 3, none⟩ = some (.string ⟨(opTab.getD k ([], 0, 0)).1.toArray⟩) ∧ W.cell? ⟨b, o + k * 3 + 1, none⟩ = some (.int .u8 (opTab.getD k ([], 0, 0)).2.1) ∧ W.cell? ⟨b, o + k * 3 + 2, none⟩ = some (.int .i64 (opTab.getD k ([], 0, 0)).2.2) := by
  have c : ∀ j v, j < 3 → (opCells (opTab.getD k ([], 0, 0)))[j]? = some v → W.cell? ⟨b, o + k * 3 + j, none⟩ = some v := by
    intro j v hj hv
    have := h (k * 3 + j) v (by rw [tab_cell k hk j hj]; exact hv)
    rwa [← Nat.add_assoc] at this
  exact ⟨c 0 _ (by omega) rfl, c 1 _ (by omega) rfl, c 2 _ (by omega) rfl⟩
set_option maxHeartbeats 1000000 in
theorem same_op (A B : Option Addr) (n c d : Nat) (w : World) (hx : Sl w w.heap.size 3 A n tabCells) (hy : Sl w w.heap.size 3 B n tabCells) :
    Calls Tryd.prog 47 #[.slice A n c, .slice B n d] w fun e w' => e = .returned (.bool true) ∧ ∃ k, w' = w.drewN k := by
  have hn : n = 43 := by have := hx.len; rw [tab_length] at this; omega
  have HN := Lib.hid hn
  have hnI : (n : Int) ≤ 43 := by omega
  clear hn
  go_enter Tryd.func47, Tryd.ntmps47
  go_wp2
  go_loopw [5] (fun i wr => ∃ k : Nat, i = .int .i64 k ∧ k ≤ n ∧ ∃ j, wr = w.drewN j) (fun i _ => n - (intOf i).toNat)
  case atStart => exact ⟨0, rfl, Nat.zero_le _, 0, rfl⟩
  case round =>
    obtain ⟨k, rfl, hk, j, rfl⟩ := hrel
    by_cases hlt : k < n
    · obtain ⟨b, o, rfl, hb, hhx⟩ := hx.at_ (by omega)
      obtain ⟨b', o', rfl, hb', hhy⟩ := hy.at_ (by omega)
      have hk43 : k < 43 := by have := HN.out; omega
      obtain ⟨x0, x1, x2⟩ := op_cells hhx hk43
      obtain ⟨y0, y1, y2⟩ := op_cells hhy hk43
      generalize (opTab.getD k ([], 0, 0)).1.toArray = v0 at x0 y0
      generalize (opTab.getD k ([], 0, 0)).2.1 = v1 at x1 y1
      generalize (opTab.getD k ([], 0, 0)).2.2 = v2 at x2 y2
      clear hhx hhy hx hy
      have hI : (k : Int) < (n : Int) := by omega
      go_wp2
      go_quiet (fail)
      go_wp2
      go_roundw
      case rel => exact ⟨k + 1, by go_num, by omega, j + nq, rfl⟩
      case measure => simp [intOf]; omega
    · go_wp2
      go_ret
      exact ⟨rfl, _, rfl⟩
set_option maxHeartbeats 400000 in
theorem ops_own (w : World) (hT : TabIs 0 w) : Calls Tryd.prog 28 #[] w fun e w' =>
    ∃ A c, e = .returned (.slice A 43 c) ∧ w'.ownsRow w.heap.size 25 3 (.slice A 43 c) 43 tabCells ∧ Below w.heap.size w w' := by
  obtain ⟨i0, hi0, hz0, hz1, hz2⟩ := info_of opT_info
  obtain ⟨tt, hB⟩ := hT
  have hs := hB.sl (sz := 3) (n := 43) tab_length
  go_enter Tryd.func28, Tryd.ntmps28
  go_wp2_with (first
    | (at_builtin
       refine wpList_app _ rfl (.const (.slice none 0 0)) (.tmp 1) _ rfl w.heap.size 25 i0 _ 3 32 Tryd.underlying42 hi0 hz0 hz1 hz2 rfl (by omega) (.slice none 0 0) 0 [] rfl (own_nil _ _ _ _) w.heap.size _ 43 43 tabCells rfl hs tab_one (by unfold maxLen; omega) (by omega) (Nat.le_refl _) 43 rfl tabCells rfl ?_
       intro A1 c1 w1 hc1 hown1 hg1 _
       have hb1 : Below w.heap.size w w1 := below_appB (Below.refl _ _) (own_nil w w.heap.size 25 3) hg1 (Nat.le_refl _)))
  go_ret
  exact ⟨A1, c1, rfl, hown1, hb1⟩
end Go.Proofs.YtfplkmldleigpaaDoor
