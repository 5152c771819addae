/- The walks of Put at widths that may not be, and of the reference's Put. -/
import Derived.Test.YtfplkmldleigpaaDoorA3
namespace Go.Proofs.YtfplkmldleigpaaDoor
open Go.RowKit
set_option linter.unusedVariables false

set_option maxHeartbeats 400000 in
theorem put_no (A : Option Addr) (n c : Nat) (l : List UInt8) (x width : Int) (w : World) (hl : legalB width = false) (hs : Sl w w.heap.size 1 A n (bs l)) (hn : n + 8 ≤ 140737488355328) :
    Calls Tryd.prog 50 #[.slice A n c, .int .u32 x, .int .i64 width] w (GivesSl w l) := by
  obtain ⟨i0, hi0, hz0, hz1, hz2⟩ := info_parts u8_info
  go_enter Tryd.func50, Tryd.ntmps50
  go_wp2_with (first
    | (at_builtin
       refine wpList_app _ rfl (.const (.slice none 0 0)) (.tmp 8) _ rfl w.heap.size 5 i0 _ 1 1 Tryd.underlying55 hi0 hz0 hz1 hz2 rfl (by omega) (.slice none 0 0) 0 [] rfl (own_nil _ _ _ _) w.heap.size A n c (bs l) rfl hs (bs_one l) (by unfold maxLen; omega) (by omega) (Nat.le_refl _) n (by omega) (bs l) rfl ?_
       intro A1 c1 w1 hc1 hown1 hg1 _
       have hb1 : Below w.heap.size w w1 := below_app (Below.refl _ _) (own_nil w w.heap.size 5 1) hg1 (Nat.le_refl _))
    | (go_at_call 55; refine (legal_any _ _).mono ?_; rintro e w' ⟨rfl, rfl⟩))
  go_ret
  exact ⟨A1, n, n, rfl, Nat.le_refl _, Sl.of_own hown1, hb1⟩

theorem ref_tests {W : Nat} (hW : W = 1 ∨ W = 2 ∨ W = 4) :
    ((W : Int) != 1) = false ∨ (((W : Int) != 1) = true ∧ ((W : Int) != 2) = false) ∨ (((W : Int) != 1) = true ∧ ((W : Int) != 2) = true ∧ ((W : Int) != 4) = false) := by
  rcases hW with rfl | rfl | rfl <;> simp

set_option maxHeartbeats 1600000 in
theorem refPut_yes (A : Option Addr) (n c : Nat) (l : List UInt8) (x : Int) (W : Nat) (w : World) (hW : W = 1 ∨ W = 2 ∨ W = 4) (hs : Sl w w.heap.size 1 A n (bs l)) (hn : n + 8 ≤ 140737488355328)
    (h0 : 0 ≤ x) (h1 : x < 4294967296) :
    Calls Tryd.prog 51 #[.slice A n c, .int .u32 x, .int .i64 W] w (GivesOwn w (l ++ le x W)) := by
  obtain ⟨i0, hi0, hz0, hz1, hz2⟩ := info_parts u8_info
  have hW4 : W ≤ 4 := by omega
  have key := ref_tests hW
  clear hW
  rcases key with e1 | ⟨e1, e2⟩ | ⟨e1, e2, e3⟩
  all_goals
    go_enter Tryd.func51, Tryd.ntmps51
    go_wp2_with (first
      | (at_builtin
         refine wpList_app _ rfl (.tmp 9) (.tmp 10) _ rfl w.heap.size 5 i0 _ 1 1 Tryd.underlying55 hi0 hz0 hz1 hz2 rfl (by omega) (.slice (some ⟨w.heap.size, 0, none⟩) 0 0) 0 [] rfl (own_empty _ _ _) w.heap.size A n c (bs l) rfl (hs.alloc (Nat.le_refl _) _) (bs_one l) (by unfold maxLen; omega) (by omega) (by simp) n (by omega) (bs l) rfl ?_
         intro A1 c1 w1 hc1 hown1 hg1 _
         have hb1 : Below w.heap.size w w1 := below_app ((Below.refl _ _).alloc (Nat.le_refl _) _) (own_empty w 5 1) hg1 (by simp)))
    go_loopw [7, 8] (fun out i wr => ∃ (k : Nat) (A1 : Option Addr) (c1 : Nat), i = .int .i64 k ∧ k ≤ W ∧ out = .slice A1 (n + k) c1 ∧ n + k ≤ c1 ∧
        wr.ownsRow w.heap.size 5 1 (.slice A1 (n + k) c1) (n + k) (bs (l ++ le x k)) ∧ Below w.heap.size w wr) (fun _ i _ => W - (intOf i).toNat)
    case atStart => exact ⟨0, A1, c1, rfl, Nat.zero_le _, rfl, hc1, by simpa [le] using hown1, hb1⟩
    case round =>
      obtain ⟨k, A2, c2, rfl, hk, rfl, hc2, hown2, hb2⟩ := hrel
      by_cases hlt : k < W
      · have hz2' := hb2.size
        rcases (show k = 0 ∨ k = 1 ∨ k = 2 ∨ k = 3 by omega) with rfl | rfl | rfl | rfl
        · go_wp2_with (first
            | (at_builtin
               refine wpList_app _ rfl (.tmp 28) (.tmp 35) _ rfl w.heap.size 5 i0 _ 1 1 Tryd.underlying55 hi0 hz0 hz1 hz2 rfl (by omega) (.slice A2 (n + 0) c2) (n + 0) (bs (l ++ le x 0)) rfl (hown2.alloc _) (wr.heap.size + 1) (some ⟨wr.heap.size, 0, none⟩) 1 1 [.int .u8 (x % 256)] rfl (sl_one _ _ _) (by intro u hu; simp at hu; subst hu; rfl) (by unfold maxLen; omega) (by omega) (by simp; omega) (n + 1) (by omega) (bs (l ++ le x 1)) (by rw [le_succ x 0, ← List.append_assoc, bs_append _ [_], bs_lowB]; simp) ?_
               intro A3 c3 w3 hc3 hown3 hg3 _
               have hb3 : Below w.heap.size w w3 := below_app (hb2.alloc hz2' _) (hown2.alloc _) hg3 (by simp; omega)))
          go_roundw
          case rel => exact ⟨1, A3, c3, by go_num, by omega, rfl, hc3, hown3, hb3⟩
          case measure => simp [intOf]; omega
        · go_wp2_with (first
            | (at_builtin
               refine wpList_app _ rfl (.tmp 28) (.tmp 35) _ rfl w.heap.size 5 i0 _ 1 1 Tryd.underlying55 hi0 hz0 hz1 hz2 rfl (by omega) (.slice A2 (n + 1) c2) (n + 1) (bs (l ++ le x 1)) rfl (hown2.alloc _) (wr.heap.size + 1) (some ⟨wr.heap.size, 0, none⟩) 1 1 [.int .u8 ((x / 256) % 256)] rfl (sl_one _ _ _) (by intro u hu; simp at hu; subst hu; rfl) (by unfold maxLen; omega) (by omega) (by simp; omega) (n + 2) (by omega) (bs (l ++ le x 2)) (by rw [le_succ x 1, ← List.append_assoc, bs_append _ [_], bs_lowB]; simp) ?_
               intro A3 c3 w3 hc3 hown3 hg3 _
               have hb3 : Below w.heap.size w w3 := below_app (hb2.alloc hz2' _) (hown2.alloc _) hg3 (by simp; omega)))
          go_roundw
          case rel => exact ⟨2, A3, c3, by go_num, by omega, rfl, hc3, hown3, hb3⟩
          case measure => simp [intOf]; omega
        · go_wp2_with (first
            | (at_builtin
               refine wpList_app _ rfl (.tmp 28) (.tmp 35) _ rfl w.heap.size 5 i0 _ 1 1 Tryd.underlying55 hi0 hz0 hz1 hz2 rfl (by omega) (.slice A2 (n + 2) c2) (n + 2) (bs (l ++ le x 2)) rfl (hown2.alloc _) (wr.heap.size + 1) (some ⟨wr.heap.size, 0, none⟩) 1 1 [.int .u8 ((x / 65536) % 256)] rfl (sl_one _ _ _) (by intro u hu; simp at hu; subst hu; rfl) (by unfold maxLen; omega) (by omega) (by simp; omega) (n + 3) (by omega) (bs (l ++ le x 3)) (by rw [le_succ x 2, ← List.append_assoc, bs_append _ [_], bs_lowB]; simp) ?_
               intro A3 c3 w3 hc3 hown3 hg3 _
               have hb3 : Below w.heap.size w w3 := below_app (hb2.alloc hz2' _) (hown2.alloc _) hg3 (by simp; omega)))
          go_roundw
          case rel => exact ⟨3, A3, c3, by go_num, by omega, rfl, hc3, hown3, hb3⟩
          case measure => simp [intOf]; omega
        · go_wp2_with (first
            | (at_builtin
               refine wpList_app _ rfl (.tmp 28) (.tmp 35) _ rfl w.heap.size 5 i0 _ 1 1 Tryd.underlying55 hi0 hz0 hz1 hz2 rfl (by omega) (.slice A2 (n + 3) c2) (n + 3) (bs (l ++ le x 3)) rfl (hown2.alloc _) (wr.heap.size + 1) (some ⟨wr.heap.size, 0, none⟩) 1 1 [.int .u8 (x / 16777216)] rfl (sl_one _ _ _) (by intro u hu; simp at hu; subst hu; rfl) (by unfold maxLen; omega) (by omega) (by simp; omega) (n + 4) (by omega) (bs (l ++ le x 4)) (by rw [le_succ x 3, ← List.append_assoc, bs_append _ [_], bs_lowB]; simp; omega) ?_
               intro A3 c3 w3 hc3 hown3 hg3 _
               have hb3 : Below w.heap.size w w3 := below_app (hb2.alloc hz2' _) (hown2.alloc _) hg3 (by simp; omega)))
          go_roundw
          case rel => exact ⟨4, A3, c3, by go_num, by omega, rfl, hc3, hown3, hb3⟩
          case measure => simp [intOf]; omega
      · obtain rfl : k = W := by omega
        go_wp2
        go_ret
        exact ⟨A2, n + k, c2, rfl, hc2, hown2, hb2⟩

set_option maxHeartbeats 400000 in
theorem refPut_no (A : Option Addr) (n c : Nat) (l : List UInt8) (x width : Int) (w : World) (hl : width ≠ 1 ∧ width ≠ 2 ∧ width ≠ 4) (hs : Sl w w.heap.size 1 A n (bs l)) (hn : n + 8 ≤ 140737488355328) :
    Calls Tryd.prog 51 #[.slice A n c, .int .u32 x, .int .i64 width] w (GivesOwn w l) := by
  obtain ⟨i0, hi0, hz0, hz1, hz2⟩ := info_parts u8_info
  obtain ⟨a1, a2, a3⟩ := hl
  have e1 : (width != 1) = true := by simpa using a1
  have e2 : (width != 2) = true := by simpa using a2
  have e3 : (width != 4) = true := by simpa using a3
  clear a1 a2 a3
  go_enter Tryd.func51, Tryd.ntmps51
  go_wp2_with (first
      | (at_builtin
         refine wpList_app _ rfl (.tmp 9) (.tmp 10) _ rfl w.heap.size 5 i0 _ 1 1 Tryd.underlying55 hi0 hz0 hz1 hz2 rfl (by omega) (.slice (some ⟨w.heap.size, 0, none⟩) 0 0) 0 [] rfl (own_empty _ _ _) w.heap.size A n c (bs l) rfl (hs.alloc (Nat.le_refl _) _) (bs_one l) (by unfold maxLen; omega) (by omega) (by simp) n (by omega) (bs l) rfl ?_
         intro A1 c1 w1 hc1 hown1 hg1 _
         have hb1 : Below w.heap.size w w1 := below_app ((Below.refl _ _).alloc (Nat.le_refl _) _) (own_empty w 5 1) hg1 (by simp)))
  go_ret
  exact ⟨A1, n, c1, rfl, hc1, hown1, hb1⟩

/-- Put, at any width -/
theorem put_any (A : Option Addr) (n c : Nat) (l : List UInt8) (x width : Int) (w : World) (hs : Sl w w.heap.size 1 A n (bs l)) (hn : n + 8 ≤ 140737488355328) (h0 : 0 ≤ x) (h1 : x < 4294967296) :
    Calls Tryd.prog 50 #[.slice A n c, .int .u32 x, .int .i64 width] w (GivesSl w (putL l x width)) := by
  rcases width_cases width with rfl | rfl | rfl | h
  · exact (put_yes A n c l x 1 w (by omega) rfl hs hn h0 h1).mono fun _ _ h => h.sl
  · exact (put_yes A n c l x 2 w (by omega) rfl hs hn h0 h1).mono fun _ _ h => h.sl
  · exact (put_yes A n c l x 4 w (by omega) rfl hs hn h0 h1).mono fun _ _ h => h.sl
  · rw [putL_no (legalB_not h)]
    exact put_no A n c l x width w (legalB_not h) hs hn
theorem refPut_any (A : Option Addr) (n c : Nat) (l : List UInt8) (x width : Int) (w : World) (hs : Sl w w.heap.size 1 A n (bs l)) (hn : n + 8 ≤ 140737488355328) (h0 : 0 ≤ x) (h1 : x < 4294967296) :
    Calls Tryd.prog 51 #[.slice A n c, .int .u32 x, .int .i64 width] w (GivesOwn w (putL l x width)) := by
  rcases width_cases width with rfl | rfl | rfl | h
  · exact refPut_yes A n c l x 1 w (by omega) hs hn h0 h1
  · exact refPut_yes A n c l x 2 w (by omega) hs hn h0 h1
  · exact refPut_yes A n c l x 4 w (by omega) hs hn h0 h1
  · rw [putL_no (legalB_not h)]
    exact refPut_no A n c l x width w h hs hn
end Go.Proofs.YtfplkmldleigpaaDoor
