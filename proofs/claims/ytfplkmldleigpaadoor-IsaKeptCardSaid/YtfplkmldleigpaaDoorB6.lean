/- The walks of isa's Find and Ops, and of the reference's Find and Shape. -/
import Derived.Test.YtfplkmldleigpaaDoorB5
import Derived.Test.YtfplkmldleigpaaDoorB1
import Derived.Test.YtfplkmldleigpaaDoorP7
namespace Go.Proofs.YtfplkmldleigpaaDoor
open Go.RowKit
set_option linter.unusedVariables false

theorem idx_0 (W : World) : (Instr.index 74 (.agg tabCells.toArray) (.int .i64 0)).run Tryd.prog W = .ok (.agg #[.string ⟨(opTab.getD 0 ([], 0, 0)).1.toArray⟩, .int .u8 (opTab.getD 0 ([], 0, 0)).2.1, .int .i64 (opTab.getD 0 ([], 0, 0)).2.2]) W := by kernel_rfl
theorem idx_1 (W : World) : (Instr.index 74 (.agg tabCells.toArray) (.int .i64 1)).run Tryd.prog W = .ok (.agg #[.string ⟨(opTab.getD 1 ([], 0, 0)).1.toArray⟩, .int .u8 (opTab.getD 1 ([], 0, 0)).2.1, .int .i64 (opTab.getD 1 ([], 0, 0)).2.2]) W := by kernel_rfl
theorem idx_2 (W : World) : (Instr.index 74 (.agg tabCells.toArray) (.int .i64 2)).run Tryd.prog W = .ok (.agg #[.string ⟨(opTab.getD 2 ([], 0, 0)).1.toArray⟩, .int .u8 (opTab.getD 2 ([], 0, 0)).2.1, .int .i64 (opTab.getD 2 ([], 0, 0)).2.2]) W := by kernel_rfl
theorem idx_3 (W : World) : (Instr.index 74 (.agg tabCells.toArray) (.int .i64 3)).run Tryd.prog W = .ok (.agg #[.string ⟨(opTab.getD 3 ([], 0, 0)).1.toArray⟩, .int .u8 (opTab.getD 3 ([], 0, 0)).2.1, .int .i64 (opTab.getD 3 ([], 0, 0)).2.2]) W := by kernel_rfl
theorem idx_4 (W : World) : (Instr.index 74 (.agg tabCells.toArray) (.int .i64 4)).run Tryd.prog W = .ok (.agg #[.string ⟨(opTab.getD 4 ([], 0, 0)).1.toArray⟩, .int .u8 (opTab.getD 4 ([], 0, 0)).2.1, .int .i64 (opTab.getD 4 ([], 0, 0)).2.2]) W := by kernel_rfl
theorem idx_5 (W : World) : (Instr.index 74 (.agg tabCells.toArray) (.int .i64 5)).run Tryd.prog W = .ok (.agg #[.string ⟨(opTab.getD 5 ([], 0, 0)).1.toArray⟩, .int .u8 (opTab.getD 5 ([], 0, 0)).2.1, .int .i64 (opTab.getD 5 ([], 0, 0)).2.2]) W := by kernel_rfl
theorem idx_6 (W : World) : (Instr.index 74 (.agg tabCells.toArray) (.int .i64 6)).run Tryd.prog W = .ok (.agg #[.string ⟨(opTab.getD 6 ([], 0, 0)).1.toArray⟩, .int .u8 (opTab.getD 6 ([], 0, 0)).2.1, .int .i64 (opTab.getD 6 ([], 0, 0)).2.2]) W := by kernel_rfl
theorem idx_7 (W : World) : (Instr.index 74 (.agg tabCells.toArray) (.int .i64 7)).run Tryd.prog W = .ok (.agg #[.string ⟨(opTab.getD 7 ([], 0, 0)).1.toArray⟩, .int .u8 (opTab.getD 7 ([], 0, 0)).2.1, .int .i64 (opTab.getD 7 ([], 0, 0)).2.2]) W := by kernel_rfl
theorem idx_8 (W : World) : (Instr.index 74 (.agg tabCells.toArray) (.int .i64 8)).run Tryd.prog W = .ok (.agg #[.string ⟨(opTab.getD 8 ([], 0, 0)).1.toArray⟩, .int .u8 (opTab.getD 8 ([], 0, 0)).2.1, .int .i64 (opTab.getD 8 ([], 0, 0)).2.2]) W := by kernel_rfl
theorem idx_9 (W : World) : (Instr.index 74 (.agg tabCells.toArray) (.int .i64 9)).run Tryd.prog W = .ok (.agg #[.string ⟨(opTab.getD 9 ([], 0, 0)).1.toArray⟩, .int .u8 (opTab.getD 9 ([], 0, 0)).2.1, .int .i64 (opTab.getD 9 ([], 0, 0)).2.2]) W := by kernel_rfl
theorem idx_10 (W : World) : (Instr.index 74 (.agg tabCells.toArray) (.int .i64 10)).run Tryd.prog W = .ok (.agg #[.string ⟨(opTab.getD 10 ([], 0, 0)).1.toArray⟩, .int .u8 (opTab.getD 10 ([], 0, 0)).2.1, .int .i64 (opTab.getD 10 ([], 0, 0)).2.2]) W := by kernel_rfl
theorem idx_11 (W : World) : (Instr.index 74 (.agg tabCells.toArray) (.int .i64 11)).run Tryd.prog W = .ok (.agg #[.string ⟨(opTab.getD 11 ([], 0, 0)).1.toArray⟩, .int .u8 (opTab.getD 11 ([], 0, 0)).2.1, .int .i64 (opTab.getD 11 ([], 0, 0)).2.2]) W := by kernel_rfl
theorem idx_12 (W : World) : (Instr.index 74 (.agg tabCells.toArray) (.int .i64 12)).run Tryd.prog W = .ok (.agg #[.string ⟨(opTab.getD 12 ([], 0, 0)).1.toArray⟩, .int .u8 (opTab.getD 12 ([], 0, 0)).2.1, .int .i64 (opTab.getD 12 ([], 0, 0)).2.2]) W := by kernel_rfl
theorem idx_13 (W : World) : (Instr.index 74 (.agg tabCells.toArray) (.int .i64 13)).run Tryd.prog W = .ok (.agg #[.string ⟨(opTab.getD 13 ([], 0, 0)).1.toArray⟩, .int .u8 (opTab.getD 13 ([], 0, 0)).2.1, .int .i64 (opTab.getD 13 ([], 0, 0)).2.2]) W := by kernel_rfl
theorem idx_14 (W : World) : (Instr.index 74 (.agg tabCells.toArray) (.int .i64 14)).run Tryd.prog W = .ok (.agg #[.string ⟨(opTab.getD 14 ([], 0, 0)).1.toArray⟩, .int .u8 (opTab.getD 14 ([], 0, 0)).2.1, .int .i64 (opTab.getD 14 ([], 0, 0)).2.2]) W := by kernel_rfl
theorem idx_15 (W : World) : (Instr.index 74 (.agg tabCells.toArray) (.int .i64 15)).run Tryd.prog W = .ok (.agg #[.string ⟨(opTab.getD 15 ([], 0, 0)).1.toArray⟩, .int .u8 (opTab.getD 15 ([], 0, 0)).2.1, .int .i64 (opTab.getD 15 ([], 0, 0)).2.2]) W := by kernel_rfl
theorem idx_16 (W : World) : (Instr.index 74 (.agg tabCells.toArray) (.int .i64 16)).run Tryd.prog W = .ok (.agg #[.string ⟨(opTab.getD 16 ([], 0, 0)).1.toArray⟩, .int .u8 (opTab.getD 16 ([], 0, 0)).2.1, .int .i64 (opTab.getD 16 ([], 0, 0)).2.2]) W := by kernel_rfl
theorem idx_17 (W : World) : (Instr.index 74 (.agg tabCells.toArray) (.int .i64 17)).run Tryd.prog W = .ok (.agg #[.string ⟨(opTab.getD 17 ([], 0, 0)).1.toArray⟩, .int .u8 (opTab.getD 17 ([], 0, 0)).2.1, .int .i64 (opTab.getD 17 ([], 0, 0)).2.2]) W := by kernel_rfl
theorem idx_18 (W : World) : (Instr.index 74 (.agg tabCells.toArray) (.int .i64 18)).run Tryd.prog W = .ok (.agg #[.string ⟨(opTab.getD 18 ([], 0, 0)).1.toArray⟩, .int .u8 (opTab.getD 18 ([], 0, 0)).2.1, .int .i64 (opTab.getD 18 ([], 0, 0)).2.2]) W := by kernel_rfl
theorem idx_19 (W : World) : (Instr.index 74 (.agg tabCells.toArray) (.int .i64 19)).run Tryd.prog W = .ok (.agg #[.string ⟨(opTab.getD 19 ([], 0, 0)).1.toArray⟩, .int .u8 (opTab.getD 19 ([], 0, 0)).2.1, .int .i64 (opTab.getD 19 ([], 0, 0)).2.2]) W := by kernel_rfl
theorem idx_20 (W : World) : (Instr.index 74 (.agg tabCells.toArray) (.int .i64 20)).run Tryd.prog W = .ok (.agg #[.string ⟨(opTab.getD 20 ([], 0, 0)).1.toArray⟩, .int .u8 (opTab.getD 20 ([], 0, 0)).2.1, .int .i64 (opTab.getD 20 ([], 0, 0)).2.2]) W := by kernel_rfl
theorem idx_21 (W : World) : (Instr.index 74 (.agg tabCells.toArray) (.int .i64 21)).run Tryd.prog W = .ok (.agg #[.string ⟨(opTab.getD 21 ([], 0, 0)).1.toArray⟩, .int .u8 (opTab.getD 21 ([], 0, 0)).2.1, .int .i64 (opTab.getD 21 ([], 0, 0)).2.2]) W := by kernel_rfl
theorem idx_22 (W : World) : (Instr.index 74 (.agg tabCells.toArray) (.int .i64 22)).run Tryd.prog W = .ok (.agg #[.string ⟨(opTab.getD 22 ([], 0, 0)).1.toArray⟩, .int .u8 (opTab.getD 22 ([], 0, 0)).2.1, .int .i64 (opTab.getD 22 ([], 0, 0)).2.2]) W := by kernel_rfl
theorem idx_23 (W : World) : (Instr.index 74 (.agg tabCells.toArray) (.int .i64 23)).run Tryd.prog W = .ok (.agg #[.string ⟨(opTab.getD 23 ([], 0, 0)).1.toArray⟩, .int .u8 (opTab.getD 23 ([], 0, 0)).2.1, .int .i64 (opTab.getD 23 ([], 0, 0)).2.2]) W := by kernel_rfl
theorem idx_24 (W : World) : (Instr.index 74 (.agg tabCells.toArray) (.int .i64 24)).run Tryd.prog W = .ok (.agg #[.string ⟨(opTab.getD 24 ([], 0, 0)).1.toArray⟩, .int .u8 (opTab.getD 24 ([], 0, 0)).2.1, .int .i64 (opTab.getD 24 ([], 0, 0)).2.2]) W := by kernel_rfl
theorem idx_25 (W : World) : (Instr.index 74 (.agg tabCells.toArray) (.int .i64 25)).run Tryd.prog W = .ok (.agg #[.string ⟨(opTab.getD 25 ([], 0, 0)).1.toArray⟩, .int .u8 (opTab.getD 25 ([], 0, 0)).2.1, .int .i64 (opTab.getD 25 ([], 0, 0)).2.2]) W := by kernel_rfl
theorem idx_26 (W : World) : (Instr.index 74 (.agg tabCells.toArray) (.int .i64 26)).run Tryd.prog W = .ok (.agg #[.string ⟨(opTab.getD 26 ([], 0, 0)).1.toArray⟩, .int .u8 (opTab.getD 26 ([], 0, 0)).2.1, .int .i64 (opTab.getD 26 ([], 0, 0)).2.2]) W := by kernel_rfl
theorem idx_27 (W : World) : (Instr.index 74 (.agg tabCells.toArray) (.int .i64 27)).run Tryd.prog W = .ok (.agg #[.string ⟨(opTab.getD 27 ([], 0, 0)).1.toArray⟩, .int .u8 (opTab.getD 27 ([], 0, 0)).2.1, .int .i64 (opTab.getD 27 ([], 0, 0)).2.2]) W := by kernel_rfl
theorem idx_28 (W : World) : (Instr.index 74 (.agg tabCells.toArray) (.int .i64 28)).run Tryd.prog W = .ok (.agg #[.string ⟨(opTab.getD 28 ([], 0, 0)).1.toArray⟩, .int .u8 (opTab.getD 28 ([], 0, 0)).2.1, .int .i64 (opTab.getD 28 ([], 0, 0)).2.2]) W := by kernel_rfl
theorem idx_29 (W : World) : (Instr.index 74 (.agg tabCells.toArray) (.int .i64 29)).run Tryd.prog W = .ok (.agg #[.string ⟨(opTab.getD 29 ([], 0, 0)).1.toArray⟩, .int .u8 (opTab.getD 29 ([], 0, 0)).2.1, .int .i64 (opTab.getD 29 ([], 0, 0)).2.2]) W := by kernel_rfl
theorem idx_30 (W : World) : (Instr.index 74 (.agg tabCells.toArray) (.int .i64 30)).run Tryd.prog W = .ok (.agg #[.string ⟨(opTab.getD 30 ([], 0, 0)).1.toArray⟩, .int .u8 (opTab.getD 30 ([], 0, 0)).2.1, .int .i64 (opTab.getD 30 ([], 0, 0)).2.2]) W := by kernel_rfl
theorem idx_31 (W : World) : (Instr.index 74 (.agg tabCells.toArray) (.int .i64 31)).run Tryd.prog W = .ok (.agg #[.string ⟨(opTab.getD 31 ([], 0, 0)).1.toArray⟩, .int .u8 (opTab.getD 31 ([], 0, 0)).2.1, .int .i64 (opTab.getD 31 ([], 0, 0)).2.2]) W := by kernel_rfl
theorem idx_32 (W : World) : (Instr.index 74 (.agg tabCells.toArray) (.int .i64 32)).run Tryd.prog W = .ok (.agg #[.string ⟨(opTab.getD 32 ([], 0, 0)).1.toArray⟩, .int .u8 (opTab.getD 32 ([], 0, 0)).2.1, .int .i64 (opTab.getD 32 ([], 0, 0)).2.2]) W := by kernel_rfl
theorem idx_33 (W : World) : (Instr.index 74 (.agg tabCells.toArray) (.int .i64 33)).run Tryd.prog W = .ok (.agg #[.string ⟨(opTab.getD 33 ([], 0, 0)).1.toArray⟩, .int .u8 (opTab.getD 33 ([], 0, 0)).2.1, .int .i64 (opTab.getD 33 ([], 0, 0)).2.2]) W := by kernel_rfl
theorem idx_34 (W : World) : (Instr.index 74 (.agg tabCells.toArray) (.int .i64 34)).run Tryd.prog W = .ok (.agg #[.string ⟨(opTab.getD 34 ([], 0, 0)).1.toArray⟩, .int .u8 (opTab.getD 34 ([], 0, 0)).2.1, .int .i64 (opTab.getD 34 ([], 0, 0)).2.2]) W := by kernel_rfl
theorem idx_35 (W : World) : (Instr.index 74 (.agg tabCells.toArray) (.int .i64 35)).run Tryd.prog W = .ok (.agg #[.string ⟨(opTab.getD 35 ([], 0, 0)).1.toArray⟩, .int .u8 (opTab.getD 35 ([], 0, 0)).2.1, .int .i64 (opTab.getD 35 ([], 0, 0)).2.2]) W := by kernel_rfl
theorem idx_36 (W : World) : (Instr.index 74 (.agg tabCells.toArray) (.int .i64 36)).run Tryd.prog W = .ok (.agg #[.string ⟨(opTab.getD 36 ([], 0, 0)).1.toArray⟩, .int .u8 (opTab.getD 36 ([], 0, 0)).2.1, .int .i64 (opTab.getD 36 ([], 0, 0)).2.2]) W := by kernel_rfl
theorem idx_37 (W : World) : (Instr.index 74 (.agg tabCells.toArray) (.int .i64 37)).run Tryd.prog W = .ok (.agg #[.string ⟨(opTab.getD 37 ([], 0, 0)).1.toArray⟩, .int .u8 (opTab.getD 37 ([], 0, 0)).2.1, .int .i64 (opTab.getD 37 ([], 0, 0)).2.2]) W := by kernel_rfl
theorem idx_38 (W : World) : (Instr.index 74 (.agg tabCells.toArray) (.int .i64 38)).run Tryd.prog W = .ok (.agg #[.string ⟨(opTab.getD 38 ([], 0, 0)).1.toArray⟩, .int .u8 (opTab.getD 38 ([], 0, 0)).2.1, .int .i64 (opTab.getD 38 ([], 0, 0)).2.2]) W := by kernel_rfl
theorem idx_39 (W : World) : (Instr.index 74 (.agg tabCells.toArray) (.int .i64 39)).run Tryd.prog W = .ok (.agg #[.string ⟨(opTab.getD 39 ([], 0, 0)).1.toArray⟩, .int .u8 (opTab.getD 39 ([], 0, 0)).2.1, .int .i64 (opTab.getD 39 ([], 0, 0)).2.2]) W := by kernel_rfl
theorem idx_40 (W : World) : (Instr.index 74 (.agg tabCells.toArray) (.int .i64 40)).run Tryd.prog W = .ok (.agg #[.string ⟨(opTab.getD 40 ([], 0, 0)).1.toArray⟩, .int .u8 (opTab.getD 40 ([], 0, 0)).2.1, .int .i64 (opTab.getD 40 ([], 0, 0)).2.2]) W := by kernel_rfl
theorem idx_41 (W : World) : (Instr.index 74 (.agg tabCells.toArray) (.int .i64 41)).run Tryd.prog W = .ok (.agg #[.string ⟨(opTab.getD 41 ([], 0, 0)).1.toArray⟩, .int .u8 (opTab.getD 41 ([], 0, 0)).2.1, .int .i64 (opTab.getD 41 ([], 0, 0)).2.2]) W := by kernel_rfl
theorem idx_42 (W : World) : (Instr.index 74 (.agg tabCells.toArray) (.int .i64 42)).run Tryd.prog W = .ok (.agg #[.string ⟨(opTab.getD 42 ([], 0, 0)).1.toArray⟩, .int .u8 (opTab.getD 42 ([], 0, 0)).2.1, .int .i64 (opTab.getD 42 ([], 0, 0)).2.2]) W := by kernel_rfl
theorem idx_all : ∀ (k : Nat), k < 43 → ∀ W : World, (Instr.index 74 (.agg tabCells.toArray) (.int .i64 (k : Int))).run Tryd.prog W = .ok (.agg #[.string ⟨(opTab.getD k ([], 0, 0)).1.toArray⟩, .int .u8 (opTab.getD k ([], 0, 0)).2.1, .int .i64 (opTab.getD k ([], 0, 0)).2.2]) W
  | 0, _, W => idx_0 W
  | 1, _, W => idx_1 W
  | 2, _, W => idx_2 W
  | 3, _, W => idx_3 W
  | 4, _, W => idx_4 W
  | 5, _, W => idx_5 W
  | 6, _, W => idx_6 W
  | 7, _, W => idx_7 W
  | 8, _, W => idx_8 W
  | 9, _, W => idx_9 W
  | 10, _, W => idx_10 W
  | 11, _, W => idx_11 W
  | 12, _, W => idx_12 W
  | 13, _, W => idx_13 W
  | 14, _, W => idx_14 W
  | 15, _, W => idx_15 W
  | 16, _, W => idx_16 W
  | 17, _, W => idx_17 W
  | 18, _, W => idx_18 W
  | 19, _, W => idx_19 W
  | 20, _, W => idx_20 W
  | 21, _, W => idx_21 W
  | 22, _, W => idx_22 W
  | 23, _, W => idx_23 W
  | 24, _, W => idx_24 W
  | 25, _, W => idx_25 W
  | 26, _, W => idx_26 W
  | 27, _, W => idx_27 W
  | 28, _, W => idx_28 W
  | 29, _, W => idx_29 W
  | 30, _, W => idx_30 W
  | 31, _, W => idx_31 W
  | 32, _, W => idx_32 W
  | 33, _, W => idx_33 W
  | 34, _, W => idx_34 W
  | 35, _, W => idx_35 W
  | 36, _, W => idx_36 W
  | 37, _, W => idx_37 W
  | 38, _, W => idx_38 W
  | 39, _, W => idx_39 W
  | 40, _, W => idx_40 W
  | 41, _, W => idx_41 W
  | 42, _, W => idx_42 W
  | n + 43, h, _ => absurd h (by omega)
theorem idx_tab (k : Nat) (hk : k < 43) (W : World) : (Instr.index 74 (.agg tabCells.toArray) (.int .i64 (k : Int))).run Tryd.prog W = .ok (.agg #[.string ⟨(opName ((k : Int) + 1)).toArray⟩, .int .u8 (opByte ((k : Int) + 1)), .int .i64 (opShape ((k : Int) + 1))]) W := by
  unfold opName opByte opShape
  rw [opAt_yes k hk]
  exact idx_all k hk W
set_option maxHeartbeats 400000 in
theorem find_any (s : ByteArray) (w : World) (hT : TabIs 0 w) :
    Calls Tryd.prog 15 #[.string s] w fun e w' => e = .returned (.tuple #[.int .i64 (findR s.toList), .bool (decide (0 < findR s.toList))]) ∧ Below w.heap.size w w' := by
  obtain ⟨t0, ht0⟩ := hT
  obtain ⟨R, hR⟩ : ∃ R, R = findR s.toList := ⟨_, rfl⟩
  rw [← hR]
  have HR := Lib.hid hR
  have Ht := Lib.hid ht0
  clear hR ht0
  go_enter Tryd.func15, Tryd.ntmps15
  go_wp2_with (refine wpList_load_row rfl 74 _ rfl 0 rfl t0 _ (0, 0) _ Ht.out Tryd.underlying74 rfl (by kernel_rfl) ?_)
  go_loopw [7] (fun i wr => ∃ k : Nat, i = .int .i64 k ∧ k ≤ 43 ∧ Hid (R = findAt s.toList (43 - k) k) ∧ Below w.heap.size w wr) (fun i _ => 43 - (intOf i).toNat)
  case atStart => exact ⟨0, rfl, Nat.zero_le _, Lib.hid (by rw [HR.out]; rfl), Below.refl _ _⟩
  case round =>
    obtain ⟨k, rfl, hk, hf, hb⟩ := hrel
    have hz := hb.size
    by_cases hlt : k < 43
    · have hix := fun W => idx_tab k hlt W
      have hI : (k : Int) < 43 := by omega
      by_cases hN : opName ((k : Int) + 1) = s.toList
      · have hR2 := hf.out
        rw [findAt_hit hlt hN] at hR2
        have hE : (opName ((k : Int) + 1) == s.toList) = true := by simpa using hN
        have HE := Lib.hid hR2
        generalize opName ((k : Int) + 1) = N at hix hE
        clear hf hN hR2
        go_wp2
        go_ret2
        exact ⟨by rw [HE.out]; simp, hb.alloc hz _⟩
      · have hR2 := hf.out
        rw [findAt_miss hlt hN] at hR2
        have hE : (opName ((k : Int) + 1) == s.toList) = false := by simpa using hN
        have HE := Lib.hid hR2
        generalize opName ((k : Int) + 1) = N at hix hE
        clear hf hN hR2
        go_wp2
        go_roundw
        case rel => exact ⟨k + 1, by go_num, by omega, HE, hb.alloc hz _⟩
        case measure => simp [intOf]; omega
    · obtain rfl : k = 43 := by omega
      go_wp2
      go_ret2
      exact ⟨by rw [hf.out]; rfl, hb⟩
end Go.Proofs.YtfplkmldleigpaaDoor
