/- The walks of Put at widths that may not be, and of Put. -/
import Derived.Test.YthcjnkakfpmpbaaDoorA3
namespace Go.Proofs.YthcjnkakfpmpbaaDoor
open Go.RowKit
set_option linter.unusedVariables false

set_option maxHeartbeats 400000 in
theorem put_no (A : Option Addr) (n c : Nat) (l : List UInt8) (x width : Int) (w : World) (hl : legalB width = false) (hs : Sl w w.heap.size 1 A n (bs l)) (hn : n + 8 ≤ 140737488355328) :
    Calls Tryd.prog 56 #[.slice A n c, .int .u32 x, .int .i64 width] w (GivesSl w l) := by
  obtain ⟨i0, hi0, hz0, hz1, hz2⟩ := info_parts u8_info
  go_enter Tryd.func56, Tryd.ntmps56
  go_wp2_with (first
    | (at_builtin
       refine wpList_app _ rfl (.const (.slice none 0 0)) (.tmp 8) _ rfl w.heap.size 5 i0 _ 1 1 Tryd.underlying22 hi0 hz0 hz1 hz2 rfl (by omega) (.slice none 0 0) 0 [] rfl (own_nil _ _ _ _) w.heap.size A n c (bs l) rfl hs (bs_one l) (by unfold maxLen; omega) (by omega) (Nat.le_refl _) n (by omega) (bs l) rfl ?_
       intro A1 c1 w1 hc1 hown1 hg1 _
       have hb1 : Below w.heap.size w w1 := below_app (Below.refl _ _) (own_nil w w.heap.size 5 1) hg1 (Nat.le_refl _))
    | (go_at_call 81; refine (legal_any _ _).mono ?_; rintro e w' ⟨rfl, rfl⟩))
  go_ret
  exact ⟨A1, n, n, rfl, Nat.le_refl _, Sl.of_own hown1, hb1⟩
/-- Put, at any width -/
theorem put_any (A : Option Addr) (n c : Nat) (l : List UInt8) (x width : Int) (w : World) (hs : Sl w w.heap.size 1 A n (bs l)) (hn : n + 8 ≤ 140737488355328) (h0 : 0 ≤ x) (h1 : x < 4294967296) :
    Calls Tryd.prog 56 #[.slice A n c, .int .u32 x, .int .i64 width] w (GivesSl w (putL l x width)) := by
  rcases width_cases width with rfl | rfl | rfl | h
  · exact (put_yes A n c l x 1 w (by omega) rfl hs hn h0 h1).mono fun _ _ h => h.sl
  · exact (put_yes A n c l x 2 w (by omega) rfl hs hn h0 h1).mono fun _ _ h => h.sl
  · exact (put_yes A n c l x 4 w (by omega) rfl hs hn h0 h1).mono fun _ _ h => h.sl
  · rw [putL_no (legalB_not h)]
    exact put_no A n c l x width w (legalB_not h) hs hn
end Go.Proofs.YthcjnkakfpmpbaaDoor
